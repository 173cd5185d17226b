import Derived.Test.YtibcjfjacielbaaGreatDoorP21
import Derived.Test.YtibcjfjacielbaaGreatDoorP27
import Derived.Laws.OwnMore
import Derived.Deep.CutBlock
import Derived.Test.YtibcjfjacielbaaGreatDoorP28
import Derived.Deep.Cut
/- Part of the proof of YtibcjfjacielbaaGreatDoorCardP: LawA LawB PaB PaC PaD PaE. -/
set_option maxRecDepth 100000
set_option maxHeartbeats 4000000
set_option linter.unusedVariables false
set_option linter.unusedSimpArgs false
namespace Go.Proofs.YtibcjfjacielbaaGreatDoor
open Go.RowKit
def headB (l:List UInt8):Bool:=digit (atB l 0)||((atB l 0).toNat==46&&decide (1<l.length)&&digit (atB l 1))
def quietB (l:List UInt8):Bool:=(List.range (l.length+1)).all fun k=> !headB (l.drop k)||decide (numPrefix (l.drop k)<spanPrefix (l.drop k))
theorem headB_of {l:List UInt8} (h:numHead l):headB l=true:=by
 rcases h with h|⟨h1,h2,h3⟩
 ·simp[headB,h]
 ·simp[headB,h1,h2,h3]
theorem quiet_of {l:List UInt8} (h:quietB l=true) (ok:List UInt8→Prop) (k:Nat):NumOk ok (l.drop k):=by
 intro hh hn;rcases Nat.lt_or_ge k (l.length+1)with hk|hk
 ·have:=List.all_eq_true.1 h k (List.mem_range.2 hk);rw[headB_of hh]at this;simp at this;omega
 ·have:l.drop k=[]:=List.drop_eq_nil_of_le (by omega);rw[this]at hh;rcases hh with h|⟨_,h,_⟩
  ·exact absurd h (by decide)
  ·exact absurd h (by decide)
def tokV (t:Tok):Int×ByteArray×Int:=((t.kind:Int),⟨t.text.toArray⟩,(t.pos:Int))
theorem toksCells_at (ts:List Tok): ∀(j:Nat) (h:j<ts.length),(toksCells ts)[j*3]? =some (.int .i64 (ts[j].kind:Int))∧(toksCells ts)[j*3+1]? =some (.string ⟨ts[j].text.toArray⟩)∧(toksCells ts)[j*3+2]? =some (.int .i64 (ts[j].pos:Int)):=by
 induction ts with
 |nil=>intro j h;simp at h
 |cons t r ih=>
  intro j h;have e:toksCells (t::r)=t.cells++toksCells r:=by simp[toksCells]
  cases j with
  |zero=>rw[e];exact⟨rfl,rfl,rfl⟩
  |succ j=>
   have hl:t.cells.length=3:=rfl;obtain⟨a,b,c⟩:=ih j (by simpa using h);rw[e];refine⟨?_,?_,?_⟩
   ·rw[List.getElem?_append_right (by rw[hl];omega),hl,show (j+1)*3-3=j*3 by omega];exact a
   ·rw[List.getElem?_append_right (by rw[hl];omega),hl,show (j+1)*3+1-3=j*3+1 by omega];exact b
   ·rw[List.getElem?_append_right (by rw[hl];omega),hl,show (j+1)*3+2-3=j*3+2 by omega];exact c
theorem tokRow_of_own {w:World} {base e g cap:Nat} {ts:List Tok} (h:w.ownsRow base e 3 (.slice (some ⟨g,0,none⟩) ts.length cap) ts.length (toksCells ts)):TokRow w g 0 (ts.map tokV):=by
 refine⟨(h.lt g rfl).2,fun j hj=>?_⟩;have hj':j<ts.length:=by simpa using hj
 obtain⟨a,b,c⟩:=toksCells_at ts j hj';have e:(ts.map tokV)[j]=tokV ts[j]:=by simp
 rw[e,Nat.zero_add];refine⟨?_,?_,?_⟩
 ·rw[h.cellAt _ (by omega),a];rfl
 ·rw[h.cellAt _ (by omega),b];rfl
 ·rw[h.cellAt _ (by omega),c];rfl
theorem tokSl_of_own {w:World} {base e:Nat} {v:Value} {ts:List Tok} (h:w.ownsRow base e 3 v ts.length (toksCells ts)):TokSl w v (ts.map tokV):=by
 rcases h.2 with⟨rfl,hn⟩|⟨g,cap,cur,rfl,_⟩
 ·refine .inl ⟨rfl,?_⟩;rw[List.eq_nil_of_length_eq_zero hn];rfl
 ·exact .inr ⟨g,0,cap,by simp,tokRow_of_own h⟩
def TokAt (w:World) (v:Value) (xs:List (Int×ByteArray×Int)):Prop:=
 ∃ao c,v= .slice ao xs.length c∧ ∀j (h:j<xs.length),∃g o,ao=some ⟨g,o,none⟩∧g<w.heap.size∧w.cell? ⟨g,o+j*3,none⟩=some (.int .i64 xs[j].1)∧w.cell? ⟨g,o+j*3+1,none⟩=some (.string xs[j].2.1)∧w.cell? ⟨g,o+j*3+2,none⟩=some (.int .i64 xs[j].2.2)
theorem TokRow.at {w:World} {g o c:Nat} {xs:List (Int×ByteArray×Int)} (h:TokRow w g o xs):TokAt w (.slice (some ⟨g,o,none⟩) xs.length c) xs:=
 ⟨_,c,rfl,fun j hj=>⟨g,o,rfl,h.1,h.2 j hj⟩⟩
theorem TokSl.at {w:World} {v:Value} {xs:List (Int×ByteArray×Int)} (h:TokSl w v xs):TokAt w v xs:=by
 rcases h with⟨rfl,rfl⟩|⟨g,o,c,rfl,h⟩
 ·exact⟨none,0,rfl,fun j hj=>absurd hj (by simp)⟩
 ·exact h.at
def pV (p:Nat):Value:=.pointer (some ⟨p,0,none⟩)
structure PS (w0:World) (p:Nat) (tv:Value) (en k o:Nat) (W:World):Prop where
 z:Blk W p 155 #[tv,.int .i64 (k:Int),.int .i64 (en:Int),.int .i64 (o:Int)]
 b:Below w0.heap.size w0 W
theorem PS.below {w0 W W':World} {p en k o:Nat} {tv:Value} (h:PS w0 p tv en k o W) (hb:Below W.heap.size W W'):PS w0 p tv en k o W':=⟨h.z.below hb h.z.lt,h.b.trans (hb.mono h.b.size)⟩
structure TS (w0:World) (tv:Value) (ts:List Tok):Prop where
 at_:TokAt w0 tv (ts.map tokV)
 len:ts.length≤1099511627776
theorem TS.cells {w0 W:World} {tv:Value} {ts:List Tok} (h:TS w0 tv ts) (hb:Below w0.heap.size w0 W): ∃ao c,tv= .slice ao ts.length c∧ ∀k,k<ts.length→ ∃g o,ao=some ⟨g,o,none⟩∧g<w0.heap.size∧W.cell? ⟨g,o+k*3,none⟩=some (.int .i64 (tk0 (ts.drop k):Int))∧W.cell? ⟨g,o+k*3+1,none⟩=some (.string (txB (ts.drop k)))∧W.cell? ⟨g,o+k*3+2,none⟩=some (.int .i64 (ps0 (ts.drop k):Int)):=by
 obtain⟨ao,c,h1,h2⟩:=h.at_;rw[List.length_map]at h1;refine⟨ao,c,h1,fun k hk=>?_⟩;obtain⟨g,o,ha,hg,x,y,z⟩:=h2 k (by rw[List.length_map];exact hk);rw[List.getElem_map]at x y z;rw[List.drop_eq_getElem_cons hk];exact⟨g,o,ha,hg,(hb.cell (p:=⟨g,_,none⟩) hg).trans x,(hb.cell (p:=⟨g,_,none⟩) hg).trans y,(hb.cell (p:=⟨g,_,none⟩) hg).trans z⟩
theorem set3 {W:World} {g:Nat} {t:TypeId} {z0 z1 z2:Value} (h:Blk W g t #[z0,z1,z2]) (v0 v1 v2:Value):
  Blk (((W.setCell ⟨g,0,none⟩ v0).setCell ⟨g,1,none⟩ v1).setCell ⟨g,2,none⟩ v2) g t #[v0,v1,v2]∧W.grownBy (((W.setCell ⟨g,0,none⟩ v0).setCell ⟨g,1,none⟩ v1).setCell ⟨g,2,none⟩ v2) (some g):=by
 have hg: ∀(W:World) i u,W.grownBy (W.setCell ⟨g,i,none⟩ u) (some g):=fun W i u=>⟨rfl,by first|rfl|simp,rfl,by simp,fun k _ hne=>Below.heap_setCell W ⟨g,i,none⟩ u k (by rintro rfl;exact hne rfl)⟩
 refine⟨?_,grow_trans (grow_trans (hg W 0 v0) (hg _ 1 v1)) (hg _ 2 v2)⟩;have:=((h.set_ 0 v0).set_ 1 v1).set_ 2 v2;simpa using this
theorem info_tok3:(Tryz.prog.info? 81).map (·.size)=some 3:=by kernel_rfl
def peekV (ts:List Tok):Value:=.agg #[.int .i64 (tk0 ts:Int),.string (txB ts),.int .i64 (ps0 ts:Int)]
theorem pa_peek {w0 W:World} {p en k o:Nat} {tv:Value} {ts:List Tok} (hs:PS w0 p tv en k o W) (ht:TS w0 tv ts) (hk:k≤ts.length):
  Calls Tryz.prog 97 #[pV p] W fun e W'=>e= .returned (peekV (ts.drop k))∧Below W.heap.size W W':=by
 have hl:=ht.len;obtain⟨W1,hW1⟩: ∃W1,W1=W.alloc (.cells #[.int .i64 0,.string ⟨#[]⟩,.int .i64 0] 81):=⟨_,rfl⟩;have hb1:Below W.heap.size W W1:=by rw[hW1];exact(Below.refl _ W).alloc (Nat.le_refl _) _
 have hz1:Blk W1 W.heap.size 81 #[.int .i64 0,.string ⟨#[]⟩,.int .i64 0]:=by rw[hW1];exact Blk.new _ _ _
 have hs1:=hs.below hb1;obtain⟨ao,c,rfl,hc⟩:=ht.cells hs1.b;have HC:=Lib.hid hc;have c0:W1.cell? ⟨p,0,none⟩=some (.slice ao ts.length c):=hs1.z.cell 0;have c1:W1.cell? ⟨p,1,none⟩=some (.int .i64 (k:Int)):=hs1.z.cell 1;have HW1:=Lib.hid hW1;have HZ1:=Lib.hid hz1;have HB1:=Lib.hid hb1;simp only[pV];clear hs ht hW1 hb1 hs1 hc hz1;by_cases hlt:k<ts.length
 ·have p1:((k:Int)<(ts.length:Int))=True:=eq_true (by omega);obtain⟨g,og,rfl,hg,x,y,z⟩:=HC.out k hlt;have k0:=HZ1.out.cell 0;have f0:=HZ1.out.frozen 0;have k1:=HZ1.out.cell 1;have f1:=HZ1.out.frozen 1;have k2:=HZ1.out.cell 2;have f2:=HZ1.out.frozen 2;simp at k0 k1 k2;clear hg;go_enter Tryz.func97,Tryz.ntmps97;go_upto_region 1 with(fail)
  rw[←HW1.out];go_wp2_with fail;go_quiet (fail);rename_i nq;go_wp2_with fail;go_region;have hs3:=set3 (HZ1.out.drewN (nq+1)) (.int .i64 (tk0 (ts.drop k):Int)) (.string (txB (ts.drop k))) (.int .i64 (ps0 (ts.drop k):Int));have HS3:=Lib.hid hs3;have HF:Hid (∀W',(W1.drewN (nq+1)).grownBy W' (some W.heap.size)→Below W.heap.size W W'):=Lib.hid fun W' hg=>below_grow (HB1.out.trans (Go.below_drewN (Below.refl _ _) _)) hg (by have:=HZ1.out.lt;simp;omega) (Nat.le_refl _)
  clear hs3;go_wp2_with fail;exact bodyPost_ret (results_blk Tryz.results97 rfl HS3.out.1 Tryz.underlying81 info_tok3) rfl ⟨rfl,HF.out _ HS3.out.2⟩
 ·have p1:((k:Int)<(ts.length:Int))=False:=eq_false (by omega);have hd:ts.drop k=[]:=List.drop_eq_nil_of_le (by omega);have HD:=Lib.hid hd;clear hd;go_enter Tryz.func97,Tryz.ntmps97;go_upto_region 1 with(fail)
  rw[←HW1.out];go_wp2_with fail;go_quiet (fail);rename_i nq;have HZ2:=Lib.hid (HZ1.out.drewN nq);have HB2:Hid (Below W.heap.size W (W1.drewN nq)):=Lib.hid (HB1.out.trans (Go.below_drewN (Below.refl _ _) _));generalize W1.drewN nq=W2 at*
  go_wp2_with (refine wpList_store_blk rfl 81 (.tmp 2) (.tmp 23) rfl W.heap.size _ rfl rfl HZ2.out info_tok3 rfl rfl ?_);intro W3 hz3 hg3;have HF:Hid (Below W.heap.size W W3):=Lib.hid (below_grow HB2.out hg3 (by have:=HZ2.out.lt;omega) (Nat.le_refl _));have HZ3:=Lib.hid hz3;clear hz3 hg3;go_wp2_with fail;rw[HD.out];exact bodyPost_ret (results_blk Tryz.results97 rfl HZ3.out Tryz.underlying81 info_tok3) rfl ⟨rfl,HF.out⟩
theorem txB_list (ts:List Tok):(txB ts).toList=tx0 ts:=by
 unfold txB;rw[ByteArray.toList_eq]
theorem isO_eq {cur:List Tok} (h:tk0 cur=6) (s:List UInt8):((txB cur).toList==s)=isO s cur:=by
 unfold isO;rw[h,txB_list];by_cases e:tx0 cur=s
 ·rw[e];simp
 ·simp[e]
theorem pa_is {w0 W:World} {p en k o:Nat} {tv:Value} {ts:List Tok} (s:List UInt8) (hs:PS w0 p tv en k o W) (ht:TS w0 tv ts) (hk:k≤ts.length):
  Calls Tryz.prog 53 #[pV p,.string ⟨s.toArray⟩] W fun e W'=>e= .returned (.bool (isO s (ts.drop k)))∧Below W.heap.size W W':=by
 have HP:=Lib.hid (pa_peek hs ht hk);obtain⟨cur,hcur⟩: ∃cur,cur=ts.drop k:=⟨_,rfl⟩;rw[←hcur]at HP ⊢
 clear hs ht hk hcur;simp only[pV]at HP ⊢
 go_enter Tryz.func53,Tryz.ntmps53;go_wp2_with fail;refine HP.out.mono ?_;rintro e W1 ⟨rfl,hb1⟩;have HB1:=Lib.hid hb1;simp only[peekV];clear hb1;by_cases h6:tk0 cur=6
 ·have p1:((tk0 cur:Int)==6)=true:=by rw[h6];rfl
  have HQ:Hid (((txB cur).toList==s)=isO s cur):=Lib.hid (isO_eq h6 s);have HF:Hid (∀cs,Below W.heap.size W (W1.alloc (.cells cs 81))):=Lib.hid fun cs=>HB1.out.alloc HB1.out.size _
  clear h6;go_wp2_with fail;go_ret;exact⟨ret_bool HQ.out,HF.out _⟩
 ·have p1:((tk0 cur:Int)==6)=false:=by simp;omega
  have HQ:Hid (false=isO s cur):=Lib.hid (by unfold isO;rw[show (tk0 cur==6)=false by simpa using h6];rfl);have HF:Hid (∀cs,Below W.heap.size W (W1.alloc (.cells cs 81))):=Lib.hid fun cs=>HB1.out.alloc HB1.out.size _
  clear h6;go_wp2_with fail;go_ret;exact⟨ret_bool HQ.out,HF.out _⟩
theorem wordOut_eq (l:List UInt8):wordOut l=⟨((if word l=true then l.map low else[]):List UInt8).toArray⟩:=by
 unfold wordOut;split<;>rfl
def wdB (ts:List Tok):ByteArray:=⟨(wd ts).toArray⟩
def Short (ts:List Tok):Prop:= ∀t∈ts,t.text.length≤1099511627776
theorem short_drop {ts:List Tok} (h:Short ts) (k:Nat):(tx0 (ts.drop k)).length≤1099511627776:=by
 rcases Nat.lt_or_ge k ts.length with hk|hk
 ·rw[List.drop_eq_getElem_cons hk];exact h _ (List.getElem_mem hk)
 ·rw[List.drop_eq_nil_of_le hk];exact Nat.zero_le _
theorem pa_word {w0 W:World} {p en k o:Nat} {tv:Value} {ts:List Tok} (hs:PS w0 p tv en k o W) (ht:TS w0 tv ts) (hsh:Short ts) (hk:k≤ts.length):
  Calls Tryz.prog 98 #[pV p] W fun e W'=>e= .returned (.string (wdB (ts.drop k)))∧Below W.heap.size W W':=by
 have HP:=Lib.hid (pa_peek hs ht hk);have HSH:=Lib.hid (short_drop hsh k);obtain⟨cur,hcur⟩: ∃cur,cur=ts.drop k:=⟨_,rfl⟩;rw[←hcur]at HP HSH ⊢
 have HWD:Hid (∀W,Calls Tryz.prog 151 #[.string (txB cur)] W fun e w'=>e= .returned (.tuple #[.string (wordOut (tx0 cur)),.bool (word (tx0 cur))])∧Below W.heap.size W w'):=Lib.hid fun W=>by
  have:=lex_word (txB cur) W (by have:=HSH.out;unfold maxLen;simp[txB,ByteArray.size];omega);simpa [txB]using this
 clear hs ht hk hsh hcur;simp only[pV]at HP ⊢
 go_enter Tryz.func98,Tryz.ntmps98;go_wp2_with fail;refine HP.out.mono ?_;rintro e W1 ⟨rfl,hb1⟩;have HF:Hid (∀cs,Below W.heap.size W (W1.alloc (.cells cs 81))):=Lib.hid fun cs=>hb1.alloc hb1.size _
 simp only[peekV];clear hb1;by_cases h1:tk0 cur=1
 ·have p1:((tk0 cur:Int)==1)=true:=by rw[h1];rfl
  have HQ:Hid (wordOut (tx0 cur)=wdB cur):=Lib.hid (by rw[wordOut_eq];unfold wdB wd;rw[if_pos h1]);clear h1;go_wp2_with (go_at_call 151;(with_reducible refine(HWD.out _).mono ?_);rintro e W2 ⟨rfl,hb2⟩;have HB2:=Lib.hid ((HF.out _).trans (hb2.mono (HF.out _).size));clear hb2);go_ret;exact⟨ret_str HQ.out,HB2.out⟩
 ·have p1:((tk0 cur:Int)==1)=false:=by simp;omega
  have HQ:Hid (⟨#[]⟩=wdB cur):=Lib.hid (by unfold wdB wd;rw[if_neg h1]);clear h1;go_wp2_with fail;go_ret;exact⟨ret_str HQ.out,HF.out _⟩
theorem pa_accept_no {w0 W:World} {p en k o:Nat} {tv:Value} {ts:List Tok} (s:List UInt8) (hs:PS w0 p tv en k o W) (ht:TS w0 tv ts) (hk:k≤ts.length) (h:isO s (ts.drop k)=false):
  Calls Tryz.prog 99 #[pV p,.string ⟨s.toArray⟩] W fun e W'=>e= .returned (.bool false)∧Below W.heap.size W W':=by
 have HP:=pa_is s hs ht hk;rw[h]at HP;replace HP:=Lib.hid HP;clear hs ht hk h;simp only[pV]at HP ⊢
 go_enter Tryz.func99,Tryz.ntmps99;go_wp2_with fail;refine HP.out.mono ?_;rintro e W1 ⟨rfl,hb1⟩;have HB1:=Lib.hid hb1;clear hb1;go_wp2_with fail;go_ret;exact⟨rfl,HB1.out⟩
def Went (w0:World) (p:Nat) (tv:Value) (en k o:Nat) (W W':World):Prop:=PS w0 p tv en k o W'∧W.grownBy W' (some p)
theorem PS.set1 {w0 W:World} {p en k o k':Nat} {tv:Value} (h:PS w0 p tv en k o W) (hp:w0.heap.size≤p):PS w0 p tv en k' o (W.setCell ⟨p,1,none⟩ (.int .i64 (k':Int)))∧W.grownBy (W.setCell ⟨p,1,none⟩ (.int .i64 (k':Int))) (some p):=by
 have hz:=h.z.set_ 1 (.int .i64 (k':Int));refine⟨⟨by simpa using hz,h.b.setCell (p:=⟨p,1,none⟩) hp _⟩,rfl,by first|rfl|simp,rfl,by simp,fun j _ hne=>Below.heap_setCell W ⟨p,1,none⟩ _ j (by rintro rfl;exact hne rfl)⟩
theorem PS.set3 {w0 W:World} {p en k o o':Nat} {tv:Value} (h:PS w0 p tv en k o W) (hp:w0.heap.size≤p):PS w0 p tv en k o' (W.setCell ⟨p,3,none⟩ (.int .i64 (o':Int)))∧W.grownBy (W.setCell ⟨p,3,none⟩ (.int .i64 (o':Int))) (some p):=by
 have hz:=h.z.set_ 3 (.int .i64 (o':Int));refine⟨⟨by simpa using hz,h.b.setCell (p:=⟨p,3,none⟩) hp _⟩,rfl,by first|rfl|simp,rfl,by simp,fun j _ hne=>Below.heap_setCell W ⟨p,3,none⟩ _ j (by rintro rfl;exact hne rfl)⟩
theorem Went.of_below {w0 W W1 W':World} {p en k o:Nat} {tv:Value} (hb:Below W.heap.size W W1) (h:Went w0 p tv en k o W1 W'):Went w0 p tv en k o W W':=⟨h.1,grow_trans (grown_below hb _) h.2⟩
theorem pa_open {w0 W:World} {p en k o:Nat} {tv:Value} {ts:List Tok} (hs:PS w0 p tv en k o W) (hp:w0.heap.size≤p) (ht:TS w0 tv ts) (hk:k≤ts.length) (h:isO [40] (ts.drop k)=true) (ho:o<300):
  Calls Tryz.prog 99 #[pV p,.string ⟨#[40]⟩] W fun e W'=>e= .returned (.bool true)∧Went w0 p tv en (k+1) (o+1) W W':=by
 have HP:=pa_is [40] hs ht hk;rw[h]at HP;replace HP:=Lib.hid HP;have HS:=Lib.hid hs;have hl:=ht.len;clear hs ht h;simp only[pV]at HP ⊢
 go_enter Tryz.func99,Tryz.ntmps99;go_wp2_with fail;refine HP.out.mono ?_;rintro e W1 ⟨rfl,hb1⟩;have hs1:=HS.out.below hb1;have c1:W1.cell? ⟨p,1,none⟩=some (.int .i64 (k:Int)):=hs1.z.cell 1;have c3:W1.cell? ⟨p,3,none⟩=some (.int .i64 (o:Int)):=hs1.z.cell 3;have f1:=hs1.z.frozen 1;have f3:=hs1.z.frozen 3;have p1:((300:Int)≤(o:Int))=False:=eq_false (by omega);obtain⟨ha,hga⟩:=hs1.set3 (o':=o+1) hp;obtain⟨hb,hgb⟩:=ha.set1 (k':=k+1) hp;have HF:Hid (Went w0 p tv en (k+1) (o+1) W ((W1.setCell ⟨p,3,none⟩ (.int .i64 ((o+1:Nat):Int))).setCell ⟨p,1,none⟩ (.int .i64 ((k+1:Nat):Int)))):=Lib.hid (Went.of_below hb1 ⟨hb,grow_trans hga hgb⟩);rw[show ((o+1:Nat):Int)=(o:Int)+1 by omega,show ((k+1:Nat):Int)=(k:Int)+1 by omega]at HF;clear hb1 hs1 ha hga hb hgb;go_wp2_with fail;go_ret;exact⟨rfl,HF.out⟩
theorem pa_close {w0 W:World} {p en k o:Nat} {tv:Value} {ts:List Tok} (hs:PS w0 p tv en k o W) (hp:w0.heap.size≤p) (ht:TS w0 tv ts) (hk:k≤ts.length) (h:isO [41] (ts.drop k)=true) (ho:1≤o) (ho2:o≤1000):
  Calls Tryz.prog 101 #[pV p,.string ⟨#[41]⟩] W fun e W'=>(∃r,e= .returned r)∧Went w0 p tv en (k+1) (o-1) W W':=by
 have HP:=pa_is [41] hs ht hk;rw[h]at HP;replace HP:=Lib.hid HP;have HS:=Lib.hid hs;have hl:=ht.len;clear hs ht h;simp only[pV]at HP ⊢
 have HA:Hid (Calls Tryz.prog 99 #[.pointer (some ⟨p,0,none⟩),.string ⟨#[41]⟩] W fun e W'=>e= .returned (.bool true)∧Went w0 p tv en (k+1) (o-1) W W'):=Lib.hid (by
  go_enter Tryz.func99,Tryz.ntmps99;go_wp2_with fail;refine HP.out.mono ?_;rintro e W1 ⟨rfl,hb1⟩;have hs1:=HS.out.below hb1;have c1:W1.cell? ⟨p,1,none⟩=some (.int .i64 (k:Int)):=hs1.z.cell 1;have c3:W1.cell? ⟨p,3,none⟩=some (.int .i64 (o:Int)):=hs1.z.cell 3;have f1:=hs1.z.frozen 1;have f3:=hs1.z.frozen 3;obtain⟨ha,hga⟩:=hs1.set3 (o':=o-1) hp;obtain⟨hb,hgb⟩:=ha.set1 (k':=k+1) hp;have HF:Hid (Went w0 p tv en (k+1) (o-1) W ((W1.setCell ⟨p,3,none⟩ (.int .i64 ((o-1:Nat):Int))).setCell ⟨p,1,none⟩ (.int .i64 ((k+1:Nat):Int)))):=Lib.hid (Went.of_below hb1 ⟨hb,grow_trans hga hgb⟩);rw[show ((o-1:Nat):Int)=(o:Int)-1 by omega,show ((k+1:Nat):Int)=(k:Int)+1 by omega]at HF;clear hb1 hs1 ha hga hb hgb;go_wp2_with fail;go_ret;exact⟨rfl,HF.out⟩)
 go_enter Tryz.func101,Tryz.ntmps101;go_wp2_with fail;refine HA.out.mono ?_;rintro e W1 ⟨rfl,hw⟩;have HW:=Lib.hid hw;clear hw;go_wp2_with fail;go_end0;exact⟨⟨_,rfl⟩,HW.out⟩
theorem fld0 (x y:Int) (s:ByteArray) (w:World):(Instr.field 81 (.agg #[.int .i64 x,.string s,.int .i64 y]) 0).run Tryz.prog w= .ok (.int .i64 x) w:=by kernel_rfl
theorem fld1 (x y:Int) (s:ByteArray) (w:World):(Instr.field 81 (.agg #[.int .i64 x,.string s,.int .i64 y]) 1).run Tryz.prog w= .ok (.string s) w:=by kernel_rfl
def metB (ts:List Tok):Bool:=tk0 ts==2||(tk0 ts==1&&decide (wd ts=[]))
theorem pa_metric {w0 W:World} {p en k o:Nat} {tv:Value} {ts:List Tok} (hs:PS w0 p tv en k o W) (ht:TS w0 tv ts) (hsh:Short ts) (hk:k≤ts.length):
  Calls Tryz.prog 54 #[pV p] W fun e W'=>e= .returned (.bool (metB (ts.drop k)))∧Below W.heap.size W W':=by
 have HP:=Lib.hid (pa_peek hs ht hk);have fl:=fld0;have HWD:Hid (∀W',Below W.heap.size W W'→Calls Tryz.prog 98 #[pV p] W' fun e W2=>e= .returned (.string (wdB (ts.drop k)))∧Below W'.heap.size W' W2):=Lib.hid fun W' hb=>pa_word (hs.below hb) ht hsh hk
 obtain⟨cur,hcur⟩: ∃cur,cur=ts.drop k:=⟨_,rfl⟩;rw[←hcur]at HP HWD ⊢
 clear hs ht hk hsh hcur;simp only[pV]at HP HWD ⊢
 go_enter Tryz.func54,Tryz.ntmps54;go_wp2_with fail;refine HP.out.mono ?_;rintro e W1 ⟨rfl,hb1⟩;have HB1:=Lib.hid hb1;simp only[peekV];clear hb1;by_cases h2:tk0 cur=2
 ·have p1:((tk0 cur:Int)==2)=true:=by rw[h2];rfl
  have HQ:Hid (true=metB cur):=Lib.hid (by unfold metB;rw[h2];rfl);clear h2;go_wp2_with fail;go_ret;exact⟨ret_bool HQ.out,HB1.out⟩
 ·have p1:((tk0 cur:Int)==2)=false:=by simp;omega
  by_cases h1:tk0 cur=1
  ·have p2:((tk0 cur:Int)==1)=true:=by rw[h1];rfl
   have HQ:Hid ((wdB cur).toList.isEmpty=metB cur):=Lib.hid (by unfold metB wdB;rw[h1,ByteArray.toList_eq];by_cases e:wd cur=[]<;>simp[e]);clear h1 h2;go_wp2_with fail;refine(HWD.out _ HB1.out).mono ?_;rintro e W2 ⟨rfl,hb2⟩;have HB2:=Lib.hid (HB1.out.trans (hb2.mono HB1.out.size));clear hb2;go_wp2_with fail;go_ret;exact⟨ret_bool HQ.out,HB2.out⟩
  ·have p2:((tk0 cur:Int)==1)=false:=by simp;omega
   have HQ:Hid (false=metB cur):=Lib.hid (by unfold metB;simp[h1,h2]);clear h1 h2;go_wp2_with fail;go_ret;exact⟨ret_bool HQ.out,HB1.out⟩
theorem pa_called {w0 W:World} {p en k o:Nat} {tv:Value} {ts:List Tok} (hs:PS w0 p tv en k o W) (ht:TS w0 tv ts) (hk:k+1≤ts.length) (h:isO [40] (ts.drop (k+1))=false):
  Calls Tryz.prog 290 #[pV p] W fun e W'=>e= .returned (.bool false)∧Below W.heap.size W W':=by
 have hl:=ht.len;obtain⟨ao,c,rfl,_⟩:=ht.cells hs.b;have c0:W.cell? ⟨p,0,none⟩=some (.slice ao ts.length c):=hs.z.cell 0;have c1:W.cell? ⟨p,1,none⟩=some (.int .i64 (k:Int)):=hs.z.cell 1;have HH:=Lib.hid h;have HS:=Lib.hid hs;have HT:=Lib.hid ht;simp only[pV];clear hs ht h;by_cases hlt:k+1<ts.length
 ·have p1:((ts.length:Int)≤(k:Int)+1)=False:=eq_false (by omega);obtain⟨cur,hcur⟩: ∃cur,cur=ts.drop (k+1):=⟨_,rfl⟩;go_enter Tryz.func290,Tryz.ntmps290;go_wp2_with fail;go_quiet (fail);rename_i nq;have hb2:Below W.heap.size W ((W.drewN (nq+1)).alloc (.cells #[.int .i64 0,.string ⟨#[]⟩,.int .i64 0] 81)):=(Go.below_drewN (Below.refl W.heap.size W) (nq+1)).alloc (by simp) _;have hs2:=HS.out.below hb2;obtain⟨_,_,hv,hc2⟩:=HT.out.cells hs2.b;injection hv with e1 e2 e3
  subst e1;obtain⟨g,og,rfl,hg,x,y,z⟩:=hc2 (k+1) hlt;obtain⟨_,_,hv,hc0⟩:=HT.out.cells HS.out.b;injection hv with e4 e5 e6
  subst e4;obtain⟨g',og',e7,_,x0,y0,z0⟩:=hc0 (k+1) hlt;injection e7 with e7
  injection e7 with e7 e8 _
  subst e7 e8;rw[←hcur]at x y z x0 y0 z0;rw[←hcur]at HH;have wk:IntKind.i64.wrap ((k:Int)+1)=((k+1:Nat):Int):=by rw[IntKind.wrap_i64];omega
  have n1:((k+1:Nat):Int)<(ts.length:Int):=by omega
  have d0:=hs2.z.cell 0;have d1:=hs2.z.cell 1;simp at d0 d1;have HB2:Hid (∀W',((W.drewN (nq+1)).alloc (.cells #[.int .i64 0,.string ⟨#[]⟩,.int .i64 0] 81)).grownBy W' (some W.heap.size)→Below W.heap.size W W'):=Lib.hid fun W' hg=>below_grow hb2 hg (by simp) (Nat.le_refl _)
  have hz3:Blk ((W.drewN (nq+1)).alloc (.cells #[.int .i64 0,.string ⟨#[]⟩,.int .i64 0] 81)) W.heap.size 81 #[.int .i64 0,.string ⟨#[]⟩,.int .i64 0]:=Blk.new (W.drewN (nq+1)) _ _;have HZ3:=Lib.hid hz3;have k0:=hz3.cell 0;have f0:=hz3.frozen 0;have k1:=hz3.cell 1;have f1:=hz3.frozen 1;have k2:=hz3.cell 2;have f2:=hz3.frozen 2;simp at k0 k1 k2;clear hb2 hs2 hc2 hg hcur e3 e2 hz3 hc0 e5 e6;go_wp2_with fail;go_region;have hs3:=set3 HZ3.out (.int .i64 (tk0 cur:Int)) (.string (txB cur)) (.int .i64 (ps0 cur:Int));have q0:=hs3.1.cell 0;have q1:=hs3.1.cell 1;have HF:=Lib.hid (HB2.out _ hs3.2);simp at q0 q1;clear hs3;by_cases h6:tk0 cur=6
  ·have p2:((tk0 cur:Int)==6)=true:=by rw[h6];rfl
   have p3:((txB cur).toList==[40])=false:=by rw[isO_eq h6];exact HH.out
   clear h6;go_wp2_with fail;go_ret;exact⟨rfl,HF.out⟩
  ·have p2:((tk0 cur:Int)==6)=false:=by simp;omega
   clear h6;go_wp2_with fail;go_ret;exact⟨rfl,HF.out⟩
 ·have p1:((ts.length:Int)≤(k:Int)+1)=True:=eq_true (by omega);go_enter Tryz.func290,Tryz.ntmps290;go_wp2_with fail;go_quiet (fail);go_wp2_with fail;go_ret;exact⟨rfl,Go.below_drewN (Below.refl _ _) _⟩
theorem wdB_ne {ts:List Tok} {s:List UInt8} (h:wd ts≠s):((wdB ts).toList==s)=false:=by
 unfold wdB;rw[ByteArray.toList_eq];simpa using h
theorem pa_mods {w0 W:World} {p en k o:Nat} {tv:Value} {ts:List Tok} (bv:Value) (hs:PS w0 p tv en k o W) (ht:TS w0 tv ts) (hsh:Short ts) (hk:k≤ts.length) (h:bare (ts.drop k)=true):
  Calls Tryz.prog 185 #[pV p,bv] W fun e W'=>(∃r,e= .returned r)∧Below W.heap.size W W':=by
 have HWD:Hid (∀W',Below W.heap.size W W'→Calls Tryz.prog 98 #[pV p] W' fun e W2=>e= .returned (.string (wdB (ts.drop k)))∧Below W'.heap.size W' W2):=Lib.hid fun W' hb=>pa_word (hs.below hb) ht hsh hk
 obtain⟨cur,hcur⟩: ∃cur,cur=ts.drop k:=⟨_,rfl⟩;rw[←hcur]at HWD h;simp only[bare,Bool.and_eq_true,decide_eq_true_eq]at h;have e1:=wdB_ne h.1.1;have e2:=wdB_ne h.1.2;have e3:=wdB_ne h.2;simp only[sBool,sOn,sIgn]at e1 e2 e3;clear hs ht hk hsh hcur h;simp only[pV]at HWD ⊢
 go_enter Tryz.func185,Tryz.ntmps185;go_wp2_with fail;refine(HWD.out _ (Below.refl _ _)).mono ?_;rintro e W1 ⟨rfl,hb1⟩;have HB1:=Lib.hid hb1;clear hb1;go_wp2_with fail;refine(HWD.out _ HB1.out).mono ?_;rintro e W2 ⟨rfl,hb2⟩;have HB2:=Lib.hid (HB1.out.trans (hb2.mono HB1.out.size));clear hb2;go_wp2_with fail;exact bodyPost_ret (results_none (show Tryz.f185.results= #[]from rfl) _ _ _) rfl ⟨⟨_,rfl⟩,HB2.out⟩
def bindV (ts:List Tok):Value:=.tuple #[.int .i64 ((bindR ts).1:Int),.string ⟨(bindR ts).2.toArray⟩]
def F11 (cur:List Tok) (b:Nat):Prop:=
 ((txB cur).toList==[61,61])=(b==0)∧((txB cur).toList==[33,61])=(b==1)∧((txB cur).toList==[60])=(b==2)∧((txB cur).toList==[62])=(b==3)∧((txB cur).toList==[60,61])=(b==4)∧((txB cur).toList==[62,61])=(b==5)∧((txB cur).toList==[43])=(b==6)∧((txB cur).toList==[45])=(b==7)∧((txB cur).toList==[42])=(b==8)∧((txB cur).toList==[47])=(b==9)∧((txB cur).toList==[37])=(b==10)
theorem f11_of {cur:List Tok} {s:List UInt8} {b:Nat} (h:tx0 cur=s) (hs:([61,61]==s)=(b==0)∧([33,61]==s)=(b==1)∧([60]==s)=(b==2)∧([62]==s)=(b==3)∧([60,61]==s)=(b==4)∧([62,61]==s)=(b==5)∧([43]==s)=(b==6)∧([45]==s)=(b==7)∧([42]==s)=(b==8)∧([47]==s)=(b==9)∧([37]==s)=(b==10)):F11 cur b:=by
 unfold F11;rw[txB_list,h];simp only[fun x:List UInt8=>Bool.beq_comm (a:=s) (b:=x)]at*
 exact hs
theorem bind_cases {cur:List Tok} (h6:tk0 cur=6) (h1:wd cur≠sOr) (h2:wd cur≠sAnd) (h3:wd cur≠sUnl):
  ((F11 cur 0∨F11 cur 1∨F11 cur 2∨F11 cur 3∨F11 cur 4∨F11 cur 5)∧bindR cur=(3,tx0 cur))∨((F11 cur 6∨F11 cur 7)∧bindR cur=(4,tx0 cur))∨((F11 cur 8∨F11 cur 9∨F11 cur 10)∧bindR cur=(5,tx0 cur))∨(F11 cur 11∧bindR cur=(0,[])):=by
 have hB:bindR cur=if lev3 (tx0 cur)=true then(3,tx0 cur)else if lev4 (tx0 cur)=true then(4,tx0 cur)else if lev5 (tx0 cur)=true then(5,tx0 cur)else(0,[]):=by
  unfold bindR;rw[if_neg h1,if_neg (by simp[h2,h3]),if_neg (by simp[h6])]
 rw[hB];by_cases l3:lev3 (tx0 cur)=true
 ·rw[if_pos l3];refine .inl ⟨?_,rfl⟩;simp only[lev3,Bool.or_eq_true,decide_eq_true_eq]at l3;rcases l3 with((((e|e)|e)|e)|e)|e
  ·exact .inl (f11_of e (by decide))
  ·exact .inr (.inl (f11_of e (by decide)))
  ·exact .inr (.inr (.inl (f11_of e (by decide))))
  ·exact .inr (.inr (.inr (.inl (f11_of e (by decide)))))
  ·exact .inr (.inr (.inr (.inr (.inl (f11_of e (by decide))))))
  ·exact .inr (.inr (.inr (.inr (.inr (f11_of e (by decide))))))
 ·rw[if_neg l3];by_cases l4:lev4 (tx0 cur)=true
  ·rw[if_pos l4];refine .inr (.inl ⟨?_,rfl⟩);simp only[lev4,Bool.or_eq_true,decide_eq_true_eq]at l4;rcases l4 with e|e
   ·exact .inl (f11_of e (by decide))
   ·exact .inr (f11_of e (by decide))
  ·rw[if_neg l4];by_cases l5:lev5 (tx0 cur)=true
   ·rw[if_pos l5];refine .inr (.inr (.inl ⟨?_,rfl⟩));simp only[lev5,Bool.or_eq_true,decide_eq_true_eq]at l5;rcases l5 with(e|e)|e
    ·exact .inl (f11_of e (by decide))
    ·exact .inr (.inl (f11_of e (by decide)))
    ·exact .inr (.inr (f11_of e (by decide)))
   ·rw[if_neg l5];refine .inr (.inr (.inr ⟨?_,rfl⟩));simp only[lev3,lev4,lev5,Bool.or_eq_true,decide_eq_true_eq,not_or]at l3 l4 l5;unfold F11;rw[txB_list];simp[l3,l4,l5]
theorem pa_binding {w0 W:World} {p en k o:Nat} {tv:Value} {ts:List Tok} (hs:PS w0 p tv en k o W) (ht:TS w0 tv ts) (hsh:Short ts) (hk:k≤ts.length):
  Calls Tryz.prog 184 #[pV p] W fun e W'=>e= .returned (bindV (ts.drop k))∧Below W.heap.size W W':=by
 have HP:=Lib.hid (pa_peek hs ht hk);have HWD:Hid (∀W',Below W.heap.size W W'→Calls Tryz.prog 98 #[pV p] W' fun e W2=>e= .returned (.string (wdB (ts.drop k)))∧Below W'.heap.size W' W2):=Lib.hid fun W' hb=>pa_word (hs.below hb) ht hsh hk
 obtain⟨cur,hcur⟩: ∃cur,cur=ts.drop k:=⟨_,rfl⟩;rw[←hcur]at HP HWD ⊢
 clear hs ht hk hsh hcur;simp only[pV]at HP HWD ⊢
 go_enter Tryz.func184,Tryz.ntmps184;go_wp2_with fail;refine HP.out.mono ?_;rintro e W1 ⟨rfl,hb1⟩;have HB1:=Lib.hid hb1;simp only[peekV];clear hb1;go_wp2_with (refine wpList_store_blk rfl 81 (.tmp 4) (.tmp 7) rfl W1.heap.size _ rfl rfl (Blk.new _ _ _) info_tok3 rfl rfl ?_);intro W2 hz2 hg2;have hb2:Below W1.heap.size W1 W2:=below_grow ((Below.refl W1.heap.size W1).alloc (Nat.le_refl _) _) hg2 (by simp) (Nat.le_refl _);have HB2:Hid (Below W.heap.size W W2):=Lib.hid (HB1.out.trans (hb2.mono HB1.out.size));have HZ2:=Lib.hid hz2;clear hz2 hg2 hb2;go_wp2_with fail;refine(HWD.out _ HB2.out).mono ?_;rintro e W3 ⟨rfl,hb3⟩;have HB3:Hid (Below W.heap.size W W3):=Lib.hid (HB2.out.trans (hb3.mono HB2.out.size));have hz3:=HZ2.out.below hb3 HZ2.out.lt;have c0:W3.cell? ⟨W1.heap.size,0,none⟩=some (.int .i64 (tk0 cur:Int)):=hz3.cell 0;have c1:W3.cell? ⟨W1.heap.size,1,none⟩=some (.string (txB cur)):=hz3.cell 1;clear hb3 hz3;by_cases h1:wd cur=sOr
 ·have e1:((wdB cur).toList==[111,114])=true:=by unfold wdB;rw[ByteArray.toList_eq,h1];rfl
  have HQ:Hid (.tuple #[.int .i64 1,.string (wdB cur)]=bindV cur):=Lib.hid (by unfold bindV bindR wdB;rw[if_pos h1,h1];rfl);clear h1;go_wp2_with fail;go_ret2;exact⟨congrArg _ HQ.out,HB3.out⟩
 have e1:((wdB cur).toList==[111,114])=false:=wdB_ne h1;by_cases h2:wd cur=sAnd
 ·have e2:((wdB cur).toList==[97,110,100])=true:=by unfold wdB;rw[ByteArray.toList_eq,h2];rfl
  have HQ:Hid (.tuple #[.int .i64 2,.string (wdB cur)]=bindV cur):=Lib.hid (by unfold bindV bindR wdB;rw[if_neg h1,if_pos (.inl h2)];rfl);clear h1 h2;go_wp2_with fail;go_ret2;exact⟨congrArg _ HQ.out,HB3.out⟩
 have e2:((wdB cur).toList==[97,110,100])=false:=wdB_ne h2;by_cases h3:wd cur=sUnl
 ·have e3:((wdB cur).toList==[117,110,108,101,115,115])=true:=by unfold wdB;rw[ByteArray.toList_eq,h3];rfl
  have HQ:Hid (.tuple #[.int .i64 2,.string (wdB cur)]=bindV cur):=Lib.hid (by unfold bindV bindR wdB;rw[if_neg h1,if_pos (.inr h3)];rfl);clear h1 h2 h3;go_wp2_with fail;go_ret2;exact⟨congrArg _ HQ.out,HB3.out⟩
 have e3:((wdB cur).toList==[117,110,108,101,115,115])=false:=wdB_ne h3;by_cases h6:tk0 cur=6
 ·have p6:((tk0 cur:Int)==6)=true:=by rw[h6];rfl
  have hcs:=bind_cases h6 h1 h2 h3;clear h1 h2 h3 h6;rcases hcs with⟨hf,hB⟩|⟨hf,hB⟩|⟨hf,hB⟩|⟨hf,hB⟩
  ·have HQ:Hid (.tuple #[.int .i64 3,.string (txB cur)]=bindV cur):=Lib.hid (by unfold bindV;rw[hB];rfl);clear hB;rcases hf with hf|hf|hf|hf|hf|hf
   all_goals
    obtain⟨f0,f1,f2,f3,f4,f5,_⟩:=hf;simp only[Nat.reduceBEq]at f0 f1 f2 f3 f4 f5;go_wp2_with fail;go_quiet (fail);go_wp2_with fail;go_ret2;exact⟨congrArg _ HQ.out,HB3.out.trans (Go.below_drewN ((Below.refl _ _).mono HB3.out.size) _)⟩
  ·have HQ:Hid (.tuple #[.int .i64 4,.string (txB cur)]=bindV cur):=Lib.hid (by unfold bindV;rw[hB];rfl);clear hB;rcases hf with hf|hf
   all_goals
    obtain⟨f0,f1,f2,f3,f4,f5,f6,f7,_⟩:=hf;simp only[Nat.reduceBEq]at f0 f1 f2 f3 f4 f5 f6 f7;go_wp2_with fail;go_quiet (fail);go_wp2_with fail;go_ret2;exact⟨congrArg _ HQ.out,HB3.out.trans (Go.below_drewN ((Below.refl _ _).mono HB3.out.size) _)⟩
  ·have HQ:Hid (.tuple #[.int .i64 5,.string (txB cur)]=bindV cur):=Lib.hid (by unfold bindV;rw[hB];rfl);clear hB;rcases hf with hf|hf|hf
   all_goals
    obtain⟨f0,f1,f2,f3,f4,f5,f6,f7,f8,f9,f10⟩:=hf;simp only[Nat.reduceBEq]at f0 f1 f2 f3 f4 f5 f6 f7 f8 f9 f10;go_wp2_with fail;go_quiet (fail);go_wp2_with fail;go_ret2;exact⟨congrArg _ HQ.out,HB3.out.trans (Go.below_drewN ((Below.refl _ _).mono HB3.out.size) _)⟩
  ·have HQ:Hid (.tuple #[.int .i64 0,.string ⟨#[]⟩]=bindV cur):=Lib.hid (by unfold bindV;rw[hB];rfl);clear hB;obtain⟨f0,f1,f2,f3,f4,f5,f6,f7,f8,f9,f10⟩:=hf;simp only[Nat.reduceBEq]at f0 f1 f2 f3 f4 f5 f6 f7 f8 f9 f10;go_wp2_with fail;go_ret2;exact⟨congrArg _ HQ.out,HB3.out⟩
 ·have p6:((tk0 cur:Int)==6)=false:=by simp;omega
  have HQ:Hid (.tuple #[.int .i64 0,.string ⟨#[]⟩]=bindV cur):=Lib.hid (by unfold bindV bindR;rw[if_neg h1,if_neg (by simp[h2,h3]),if_pos h6];rfl);clear h1 h2 h3 h6;go_wp2_with fail;go_ret2;exact⟨congrArg _ HQ.out,HB3.out⟩
end Go.Proofs.YtibcjfjacielbaaGreatDoor
