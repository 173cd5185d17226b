import Derived.Laws.OwnMore
import Derived.Test.YtibcjfjacielbaaGreatDoorH15
import Derived.Deep.CutBlock
import Derived.Test.YtibcjfjacielbaaGreatDoorH06
/- Part of the proof of YtibcjfjacielbaaGreatDoorCardH: LexI LexJ LawA LawB LawD TrK. -/
set_option maxRecDepth 100000
set_option maxHeartbeats 4000000
set_option linter.unusedVariables false
set_option linter.unusedSimpArgs false
namespace Go.Proofs.YtibcjfjacielbaaGreatDoor
open Go.RowKit
def TokRow (w:World) (g o:Nat) (xs:List (Int×ByteArray×Int)):Prop:=
 g<w.heap.size∧ ∀j (h:j<xs.length),w.cell? ⟨g,o+j*3,none⟩=some (.int .i64 xs[j].1)∧w.cell? ⟨g,o+j*3+1,none⟩=some (.string xs[j].2.1)∧w.cell? ⟨g,o+j*3+2,none⟩=some (.int .i64 xs[j].2.2)
theorem vi' {k:IntKind} {a b:Int} (h:a=b):Value.int k a=Value.int k b:=by rw[h]
def TokSl (w:World) (v:Value) (xs:List (Int×ByteArray×Int)):Prop:=
 (v= .slice none 0 0∧xs=[])∨ ∃g o c,v= .slice (some ⟨g,o,none⟩) xs.length c∧TokRow w g o xs
def headB (l:List UInt8):Bool:=digit (atB l 0)||((atB l 0).toNat==46&&decide (1<l.length)&&digit (atB l 1))
def quietB (l:List UInt8):Bool:=(List.range (l.length+1)).all fun k=> !headB (l.drop k)||decide (numPrefix (l.drop k)<spanPrefix (l.drop k))
theorem headB_of {l:List UInt8} (h:numHead l):headB l=true:=by
 rcases h with h|⟨h1,h2,h3⟩
 ·simp[headB,h]
 ·simp[headB,h1,h2,h3]
theorem quiet_of {l:List UInt8} (h:quietB l=true) (ok:List UInt8→Prop) (k:Nat):NumOk ok (l.drop k):=by
 intro hh hn;rcases Nat.lt_or_ge k (l.length+1)with hk|hk
 ·have:=List.all_eq_true.1 h k (List.mem_range.2 hk);rw[headB_of hh]at this;simp at this;omega
 ·have:l.drop k=[]:=List.drop_eq_nil_of_le (by omega);rw[this]at hh;rcases hh with h|⟨_,h,_⟩
  ·exact absurd h (by decide)
  ·exact absurd h (by decide)
def tokV (t:Tok):Int×ByteArray×Int:=((t.kind:Int),⟨t.text.toArray⟩,(t.pos:Int))
theorem toksCells_at (ts:List Tok): ∀(j:Nat) (h:j<ts.length),(toksCells ts)[j*3]? =some (.int .i64 (ts[j].kind:Int))∧(toksCells ts)[j*3+1]? =some (.string ⟨ts[j].text.toArray⟩)∧(toksCells ts)[j*3+2]? =some (.int .i64 (ts[j].pos:Int)):=by
 induction ts with
 |nil=>intro j h;simp at h
 |cons t r ih=>
  intro j h;have e:toksCells (t::r)=t.cells++toksCells r:=by simp[toksCells]
  cases j with
  |zero=>rw[e];exact⟨rfl,rfl,rfl⟩
  |succ j=>
   have hl:t.cells.length=3:=rfl;obtain⟨a,b,c⟩:=ih j (by simpa using h);rw[e];refine⟨?_,?_,?_⟩
   ·rw[List.getElem?_append_right (by rw[hl];omega),hl,show (j+1)*3-3=j*3 by omega];exact a
   ·rw[List.getElem?_append_right (by rw[hl];omega),hl,show (j+1)*3+1-3=j*3+1 by omega];exact b
   ·rw[List.getElem?_append_right (by rw[hl];omega),hl,show (j+1)*3+2-3=j*3+2 by omega];exact c
theorem tokRow_of_own {w:World} {base e g cap:Nat} {ts:List Tok} (h:w.ownsRow base e 3 (.slice (some ⟨g,0,none⟩) ts.length cap) ts.length (toksCells ts)):TokRow w g 0 (ts.map tokV):=by
 refine⟨(h.lt g rfl).2,fun j hj=>?_⟩;have hj':j<ts.length:=by simpa using hj
 obtain⟨a,b,c⟩:=toksCells_at ts j hj';have e:(ts.map tokV)[j]=tokV ts[j]:=by simp
 rw[e,Nat.zero_add];refine⟨?_,?_,?_⟩
 ·rw[h.cellAt _ (by omega),a];rfl
 ·rw[h.cellAt _ (by omega),b];rfl
 ·rw[h.cellAt _ (by omega),c];rfl
theorem tokSl_of_own {w:World} {base e:Nat} {v:Value} {ts:List Tok} (h:w.ownsRow base e 3 v ts.length (toksCells ts)):TokSl w v (ts.map tokV):=by
 rcases h.2 with⟨rfl,hn⟩|⟨g,cap,cur,rfl,_⟩
 ·refine .inl ⟨rfl,?_⟩;rw[List.eq_nil_of_length_eq_zero hn];rfl
 ·exact .inr ⟨g,0,cap,by simp,tokRow_of_own h⟩
theorem scanAll_code {l:List UInt8} {ts:List Tok} {a e:Nat} (h:scanAll l=(ts,some (a,e))):e≠0∧a≤33554432∧e≤112:=by
 unfold scanAll at h;by_cases hl:33554432<l.length
 ·rw[if_pos hl]at h;injection h with _ h
  injection h with h
  injection h with h1 h2
  omega
 ·rw[if_neg hl]at h;have:=scanF_fault l.length l 0 false false ts a e (Nat.le_refl _) h;omega
def TokAt (w:World) (v:Value) (xs:List (Int×ByteArray×Int)):Prop:=
 ∃ao c,v= .slice ao xs.length c∧ ∀j (h:j<xs.length),∃g o,ao=some ⟨g,o,none⟩∧g<w.heap.size∧w.cell? ⟨g,o+j*3,none⟩=some (.int .i64 xs[j].1)∧w.cell? ⟨g,o+j*3+1,none⟩=some (.string xs[j].2.1)∧w.cell? ⟨g,o+j*3+2,none⟩=some (.int .i64 xs[j].2.2)
theorem TokRow.at {w:World} {g o c:Nat} {xs:List (Int×ByteArray×Int)} (h:TokRow w g o xs):TokAt w (.slice (some ⟨g,o,none⟩) xs.length c) xs:=
 ⟨_,c,rfl,fun j hj=>⟨g,o,rfl,h.1,h.2 j hj⟩⟩
theorem TokSl.at {w:World} {v:Value} {xs:List (Int×ByteArray×Int)} (h:TokSl w v xs):TokAt w v xs:=by
 rcases h with⟨rfl,rfl⟩|⟨g,o,c,rfl,h⟩
 ·exact⟨none,0,rfl,fun j hj=>absurd hj (by simp)⟩
 ·exact h.at
theorem meas_j {F r:Nat} (h:r<F):F-(intOf (.int .i64 ((r:Int)+1))).toNat<F-(intOf (.int .i64 (r:Int))).toNat:=by
 have h1:(intOf (.int .i64 ((r:Int)+1))).toNat=r+1:=rfl;have h2:(intOf (.int .i64 (r:Int))).toNat=r:=rfl;rw[h1,h2];exact Nat.sub_lt_sub_left h (Nat.lt_succ_self r)
theorem ScanPost.open {w w':World} {r:List Tok×Option (Nat×Nat)} {e:Ending} (h:ScanPost w r e w'):
  ∃ao c,e= .returned (.tuple #[.slice ao (outToks r).length c,.int .i64 (outAt r:Int),.int .i64 (outErr r:Int)])∧w'.ownsRow w.heap.size 81 3 (.slice ao (outToks r).length c) (outToks r).length (toksCells (outToks r))∧TokAt w' (.slice ao (outToks r).length c) ((outToks r).map tokV)∧Below w.heap.size w w':=by
 obtain⟨v,rfl,ho,hb⟩:=h;have hs:=tokSl_of_own ho;rcases ho.2 with⟨rfl,hn⟩|⟨g,cap,cur,rfl,_⟩
 ·rw[List.eq_nil_of_length_eq_zero hn]at*
  exact⟨none,0,rfl,ho,hs.at,hb⟩
 ·exact⟨_,cap,rfl,ho,hs.at,hb⟩
theorem scanAll_err {l:List UInt8} {a e:Nat} (h:(scanAll l).2=some (a,e)):e≠0∧a≤33554432∧e≤112:=
 scanAll_code (ts:=(scanAll l).1) (by rw[←h])
theorem scanF_len: ∀(m:Nat) (l:List UInt8) (p:Nat) (br sq:Bool),l.length≤m→(scanF l p br sq).1.length≤l.length∧ ∀t∈(scanF l p br sq).1,t.pos+t.text.length≤p+l.length
 |m,[],p,br,sq,_=>⟨Nat.zero_le _,fun t h=>by cases h⟩
 |0,c::r,p,br,sq,h=>by simp at h
 |m+1,c::r,p,br,sq,hm=>by
  have hne:c::r≠[]:=by simp
  generalize hl:c::r=x at*
  have hlen:=nil_len hne;cases hb:isBl (atB x 0)
  ·by_cases hc:(atB x 0).toNat=35
   ·have hr:=remark_pos hne;rw[scanF_remark hne hc];obtain⟨i1,i2⟩:=scanF_len m (x.drop (remark x)) (p+remark x) br sq (by simp;omega);rw[List.length_drop]at i1 i2;exact⟨by omega,fun t ht=>by have:=i2 t ht;omega⟩
   ·cases ht:tokenR x br sq with
    |bad e'=>rw[scanF_bad hne hb hc ht];exact⟨Nat.zero_le _,fun t h=>by cases h⟩
    |tok k n b q=>
     have hn:=tokenR_pos hne ht;rw[scanF_tok hne hb hc ht];obtain⟨i1,i2⟩:=scanF_len m (x.drop n) (p+n) b q (by simp;omega);rw[List.length_drop]at i1 i2;refine⟨by simp only[List.length_cons];omega,fun t ht=>?_⟩;rcases List.mem_cons.1 ht with rfl|ht
     ·simp only[List.length_take];omega
     ·have:=i2 t ht;omega
  ·rw[scanF_blank hne hb];obtain⟨i1,i2⟩:=scanF_len m (x.drop 1) (p+1) br sq (by simp;omega);rw[List.length_drop]at i1 i2;exact⟨by omega,fun t ht=>by have:=i2 t ht;omega⟩
theorem scanAll_len (l:List UInt8):(scanAll l).1.length≤l.length∧ ∀t∈(scanAll l).1,t.pos+t.text.length≤l.length:=by
 unfold scanAll;split
 ·exact⟨Nat.zero_le _,fun t h=>by cases h⟩
 ·have:=scanF_len l.length l 0 false false (Nat.le_refl _);rw[Nat.zero_add]at this;exact this
theorem str_ne {x s:ByteArray} (h: ¬x=s):(x.toList==s.toList)=false:=by
 rw[beq_eq_false_iff_ne];intro e;rw[ByteArray.toList_eq,ByteArray.toList_eq]at e;exact h (by rw[←mk_data x,←mk_data s,e])
theorem tree_token {T:Nat→World→Prop} (hT:NumT (fun _=>True) T) (w:World) (s:ByteArray) (hs:s.size≤1048576) (hTw:T w.heap.size w):
  Calls Tryz.prog 214 #[.string s] w (IntPost w (tokK s)):=by
 obtain⟨R,hR⟩: ∃R,R=scanAll s.data.toList:=⟨_,rfl⟩;have hk:tokK s=tokR s.data.toList R:=by rw[hR];rfl
 have HK:=Lib.hid hk;have HR:=Lib.hid hR;have HE:=Lib.hid (show ∀a e,R.2=some (a,e)→e≠0 from fun a e h=>(scanAll_err (by rw[←hR];exact h)).1);have HL:Hid (R.1.length≤1048576):=Lib.hid (by
  have h1:=(scanAll_len s.data.toList).1;rw[←hR,len_data]at h1;omega)
 clear hk hR;go_enter Tryz.func214,Tryz.ntmps214;go_wp2_with fail;refine(lex_Scan hT _ s (by omega) (fun _ _ _=>trivial) hTw).mono ?_;intro e w2 hp;obtain⟨ao,ca,rfl,hoa,hta,hb2⟩:=hp.open;rw[←HR.out]at hoa hta ⊢
 have HB:=Lib.hid hb2;have HTA:=Lib.hid hta;clear hoa hta hp hb2 hTw;obtain⟨ts,er⟩:=R;cases er with
 |some f=>
  obtain⟨a,c⟩:=f;have he:=HE.out a c rfl;have hc:((c:Int)==0)=false:=by rw[beq_eq_false_iff_ne];omega
  have hc2:((c:Int) != 0)=true:=by rw[bne,hc];rfl
  simp only[outErr,outAt,outToks];have H0:Hid (tokK s=0):=Lib.hid (by rw[HK.out];cases ts with|nil=>rfl|cons t ts=>cases ts<;>rfl);clear HK HE HTA HR HL;go_wp2_with fail;go_ret;exact⟨by rw[H0.out];rfl,HB.out⟩
 |none=>
  simp only[outErr,outAt,outToks]at HTA ⊢
  obtain⟨ao',c',hv,hc⟩:=HTA.out;cases ts with
  |nil=>
   have H0:Hid (tokK s=0):=Lib.hid (by rw[HK.out];rfl);clear HK HE HTA HR HL hv hc;go_wp2_with fail;go_ret;exact⟨by rw[H0.out];rfl,HB.out⟩
  |cons t ts=>
   cases ts with
   |cons t2 ts=>
    have H0:Hid (tokK s=0):=Lib.hid (by rw[HK.out];rfl);have hl:((((t::t2::ts).length:Nat):Int)==1)=false:=by rw[beq_eq_false_iff_ne];simp only[List.length_cons];omega
    have hl2:((((t::t2::ts).length:Nat):Int) != 1)=true:=by rw[bne,hl];rfl
    clear HK HE HTA HR HL hv hc;generalize (t::t2::ts).length=n at hl hl2 ⊢
    go_wp2_with fail;go_ret;exact⟨by rw[H0.out];rfl,HB.out⟩
   |nil=>
    obtain⟨g,o,hao,hg,h0,h1,h2⟩:=hc 0 (by simp);injection hv with hv1 hv2 hv3
    subst hv1 hao;simp only[List.map_cons,List.map_nil,List.getElem_cons_zero,tokV,Nat.zero_mul,Nat.add_zero,List.length_cons,List.length_nil,Nat.zero_add]at h0 h1 h2 ⊢
    clear hv2 hv3 hc HTA HR HE HL h2;by_cases he:t.text=s.data.toList
    ·have H0:Hid (tokK s=t.kind):=Lib.hid (by rw[HK.out];simp[tokR,he]);rw[he,mk_data]at h1;clear HK he;go_wp2_with fail;go_ret;exact⟨by rw[H0.out];rfl,HB.out⟩
    ·have H0:Hid (tokK s=0):=Lib.hid (by rw[HK.out];simp[tokR,he]);have hne: ¬(⟨t.text.toArray⟩:ByteArray)=s:=fun h=>he (by rw[←h])
     obtain⟨x,hx⟩: ∃x:ByteArray,x=⟨t.text.toArray⟩:=⟨_,rfl⟩;rw[←hx]at h1 hne;have hne1:(x.toList==s.toList)=false:=str_ne hne;clear HK he hx hne;go_wp2_with fail;go_ret;exact⟨by rw[H0.out];rfl,HB.out⟩
theorem tree_duration {T:Nat→World→Prop} (hT:NumT (fun _=>True) T) (w:World) (s:ByteArray) (hs:s.size≤1048576) (hTw:T w.heap.size w):
  Calls Tryz.prog 178 #[.string s] w (BoolPost w (durB s)):=by
 have HC:=Lib.hid (tree_token hT w s hs hTw);have HD:Hid (durB s=(((tokK s:Nat):Int)==4)):=Lib.hid (by unfold durB;rw[Bool.eq_iff_iff];simp;omega);clear hTw;go_enter Tryz.func178,Tryz.ntmps178;go_wp2_with fail;refine HC.out.mono ?_;rintro e w2 ⟨rfl,hb⟩;have HB:=Lib.hid hb;clear hb;go_wp2_with fail;go_ret;exact⟨by rw[HD.out];rfl,HB.out⟩
theorem tree_lexeme {T:Nat→World→Prop} (hT:NumT (fun _=>True) T) (w:World) (s:ByteArray) (hs:s.size≤1048576) (hTw:T w.heap.size w):
  Calls Tryz.prog 171 #[.string s] w (BoolPost w (lexemeB s)):=by
 have HC:=Lib.hid (tree_token hT w s hs hTw);have HD:Hid (lexemeB s=(((tokK s:Nat):Int)==3||((tokK s:Nat):Int)==4)):=Lib.hid (by unfold lexemeB;rw[Bool.eq_iff_iff];simp;omega);clear hTw;generalize tokK s=k at HC HD;go_enter Tryz.func171,Tryz.ntmps171;go_wp2_with fail;refine HC.out.mono ?_;rintro e w2 ⟨rfl,hb⟩;have HB:=Lib.hid hb;clear hb HC;by_cases h3:k=3
 ·subst h3;go_wp2_with fail;go_ret;exact⟨by rw[HD.out];rfl,HB.out⟩
 ·have h3':((k:Int)==3)=false:=by rw[beq_eq_false_iff_ne];omega
  clear h3;go_wp2_with fail;go_ret;exact⟨by rw[HD.out,h3'];rfl,HB.out⟩
end Go.Proofs.YtibcjfjacielbaaGreatDoor
