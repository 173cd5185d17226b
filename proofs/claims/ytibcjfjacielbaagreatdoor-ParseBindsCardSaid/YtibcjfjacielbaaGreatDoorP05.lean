import Derived.Test.YtibcjfjacielbaaGreatDoorP01
import Derived.Test.YtibcjfjacielbaaGreatDoorProg
/- Part of the proof of YtibcjfjacielbaaGreatDoorCardP: LexA LexB TrP TrC. -/
set_option maxRecDepth 100000
set_option maxHeartbeats 4000000
set_option linter.unusedVariables false
set_option linter.unusedSimpArgs false
namespace Go.Proofs.YtibcjfjacielbaaGreatDoor
open Go.RowKit
theorem lex_digit (c:UInt8) (w:World):
  Calls Tryz.prog 145 #[.int .u8 (c.toNat:Int)] w fun e w'=>e= .returned (.bool (digit c))∧w=w':=by
 go_enter Tryz.func145,Tryz.ntmps145;go_wp2
 all_goals (go_ret;exact⟨ret_bool (by rw[Bool.eq_iff_iff];simp[digit];omega),rfl⟩)
theorem lex_letter (c:UInt8) (w:World):
  Calls Tryz.prog 141 #[.int .u8 (c.toNat:Int)] w fun e w'=>e= .returned (.bool (letter c))∧w=w':=by
 go_enter Tryz.func141,Tryz.ntmps141;go_wp2
 all_goals (go_ret;exact⟨ret_bool (by rw[Bool.eq_iff_iff];simp[letter];omega),rfl⟩)
theorem lex_nameEnd (s : ByteArray) (i : Nat) (col : Bool) (w : World) (hs : s.size ≤ maxLen) (hi : i ≤ maxLen) :
    Calls Tryz.prog 143 #[.string s,.int .i64 (i:Int),.bool col] w fun e w'=>e= .returned (.int .i64 (spanEnd (nameCh col) s.data.toList i:Nat))∧w=w':=by
  unfold maxLen at hs hi
  go_enter Tryz.func143,Tryz.ntmps143
  go_wp2_with fail
  go_loop [1] (fun t=> ∃k:Nat,k≤9223372036854775807∧t= .int .i64 k∧Hid (spanEnd (nameCh col) s.data.toList k=spanEnd (nameCh col) s.data.toList i)) (fun t=>s.size-(intOf t).toNat)
  case atStart=>exact⟨i,hi,rfl,rfl⟩
  case round =>
    obtain⟨k,hk,rfl,hsp⟩:=hrel
    by_cases hlt:k<s.size
    · cases hl : letter s[k] <;> cases hd : digit s[k] <;> cases col
      all_goals
        go_wp2_with (first|(go_at_call 141;refine(lex_letter _ _).mono ?_;rintro e w' ⟨rfl,rfl⟩)|(go_at_call 145;refine(lex_digit _ _).mono ?_;rintro e w' ⟨rfl,rfl⟩))
      all_goals first
        | (go_ret; exact ⟨ret_int (by rw [← hsp.out, spanEnd_stopB hlt (by simp [nameCh, *]; try (rename_i h; simp at h; omega))]), rfl⟩)
        | (go_round
           case rel=>exact⟨k+1,by omega,by go_num,(spanEnd_stepB hlt (by simp[nameCh, *];try(rename_i h;simp at h;omega))).trans hsp.out⟩
           case measure=>simp[intOf];omega)
    · go_wp2_with fail
      go_ret
      exact⟨ret_int (by rw[←hsp.out,spanEnd_end (by simpa using hlt)]),rfl⟩
theorem lex_lower (s:ByteArray) (w:World) (hs:s.size≤maxLen):
  Calls Tryz.prog 199 #[.string s] w fun e w'=>e= .returned (.string ⟨(s.data.toList.map low).toArray⟩)∧Below w.heap.size w w':=by
 unfold maxLen at hs;go_enter Tryz.func199,Tryz.ntmps199;go_wp2_with (with_reducible refine wpList_bytes_of_string rfl (.tmp 6) 9 142 5 rfl s rfl Tryz.underlying9 Tryz.underlying142 Tryz.underlying5 ?_);intro cap w1 hcap hb1 hbel1 hsz1;go_wp2_with fail;go_loopw [10] (fun i wr=> ∃k:Nat,k≤s.size∧i= .int .i64 k∧BytesAt wr w.heap.size (lowTo s.data.toList k)∧Below w.heap.size w wr∧w.heap.size<wr.heap.size) (fun i _=>s.size-(intOf i).toNat)
 case atStart=>exact⟨0,Nat.zero_le _,rfl,by rw[lowTo_zero];exact hb1,hbel1,hsz1⟩
 case round=>
  obtain⟨k,hk,rfl,hb,hbel,hsz⟩:=hrel;by_cases hlt:k<s.size
  ·have hkl:k<s.data.toList.length:=by rw[len_data];exact hlt
   have hkl':k<(lowTo s.data.toList k).length:=by rw[lowTo_len];exact hkl
   have hc:wr.cell? ⟨w.heap.size,k,none⟩=some (.int .u8 (s[k].toNat:Int)):=by
    rw[hb.cell hkl',lowTo_at _ _ hkl,gl]
   have hf:wr.frozen? ⟨w.heap.size,k,none⟩=false:=hb.free hkl';by_cases hup:65≤s[k].toNat∧s[k].toNat≤90
   ·have hset:=hb.set_ hkl' (low s[k]);rw[low_up _ hup]at hset;have hnx:BytesAt (wr.setCell ⟨w.heap.size,k,none⟩ (.int .u8 ((s[k].toNat:Int)+32))) w.heap.size (lowTo s.data.toList (k+1)):=by
     rw[lowTo_succ _ _ hkl,gl];exact hset
    have HN:=Lib.hid hnx;have HB:=Lib.hid hbel;clear hset hnx hb hb1 hbel hbel1;obtain⟨hu1,hu2⟩:=hup;go_wp2_with fail;go_roundw
    case rel=>exact⟨k+1,by omega,by go_num,HN.out,HB.out.setCell (Nat.le_refl _) _,by simpa using hsz⟩
    case measure=>simp[intOf];omega
   ·have hnx:BytesAt wr w.heap.size (lowTo s.data.toList (k+1)):=by
     rw[lowTo_same _ _ hkl (by rw[gl];exact low_id _ hup)];exact hb
    have HN:=Lib.hid hnx;have HB:=Lib.hid hbel;clear hnx hb hb1 hbel hbel1;rcases(show s[k].toNat<65∨(65≤s[k].toNat∧90<s[k].toNat)from by omega)with hu|⟨hu1,hu2⟩
    all_goals
     go_wp2_with fail;go_roundw
     case rel=>exact⟨k+1,by omega,by go_num,HN.out,HB.out,hsz⟩
     case measure=>simp[intOf];omega
  ·have hke:k=s.size:=by omega
   have hlen:s.data.toList.length=s.size:=len_data s;rw[lowTo_all _ (by omega)]at hb;have hback:=run_string_of (P:=Tryz.prog) hb 142 9 5 s.size cap (by simp) Tryz.underlying142 Tryz.underlying5 Tryz.underlying9;have HB:=Lib.hid hbel;clear hlen hke hb hbel;go_wp2_with fail;go_ret;exact⟨rfl,HB.out⟩
theorem ret_sb {s t:ByteArray} {a b:Bool} (h:s=t) (h':a=b):Ending.returned (.tuple #[.string s,.bool a])= .returned (.tuple #[.string t,.bool b]):=by rw[h,h']
def wordOut (l:List UInt8):ByteArray:=if word l then⟨(l.map low).toArray⟩else⟨#[]⟩
theorem lex_isLabel_nil (w:World):Calls Tryz.prog 217 #[.string ⟨#[]⟩] w fun e w'=>e= .returned (.bool false)∧w=w':=by
 go_enter Tryz.func217,Tryz.ntmps217;go_wp2_with fail;go_ret;exact⟨rfl,rfl⟩
theorem lex_isLabel (s:ByteArray) (w:World) (hs:s.size≤maxLen):
  Calls Tryz.prog 217 #[.string s] w fun e w'=>e= .returned (.bool (isLabel s.data.toList))∧w=w':=by
 cases hl:s.data.toList with
 |nil=>
  have:s=⟨#[]⟩:=by rw[←mk_data s,hl]
  subst this;exact lex_isLabel_nil w
 |cons c r=>
  have hsz:0<s.size:=by rw[←len_data,hl];simp
  have hc:s[0]=c:=by rw[←gl s 0 (by rw[hl];simp)];simp[hl]
  have hsp:=spanEnd_all (nameCh false) s.data.toList;rw[len_data]at hsp;have hne:(s.toList==[])=false:=by rw[ByteArray.toList_eq,hl];rfl
  have hfin:isLabel s.data.toList=(letter c&&s.data.toList.all (nameCh false)):=by rw[hl];rfl
  rw[←hl,hfin,←hsp,←hc];have hs':=hs;unfold maxLen at hs';clear hfin hc hsp hl;cases hlt:letter s[0]
  all_goals
   go_enter Tryz.func217,Tryz.ntmps217;go_wp2_with (first|(go_at_call 141;refine(lex_letter _ _).mono ?_;rintro e w' ⟨rfl,rfl⟩)|(go_at_call 143;refine(lex_nameEnd s 0 false _ hs (by decide)).mono ?_;rintro e w' ⟨rfl,rfl⟩));go_ret;exact⟨ret_bool (by rw[Bool.eq_iff_iff];simp;try omega),rfl⟩
theorem lex_word (s:ByteArray) (w:World) (hs:s.size≤maxLen):
  Calls Tryz.prog 151 #[.string s] w fun e w'=>e= .returned (.tuple #[.string (wordOut s.data.toList),.bool (word s.data.toList)])∧Below w.heap.size w w':=by
 have hs':=hs;unfold maxLen at hs';by_cases h12:12<s.size
 ·have hw:word s.data.toList=false:=word_long (by rw[len_data];exact h12);have hw2:wordOut s.data.toList=⟨#[]⟩:=by simp[wordOut,hw]
  rw[hw,hw2];clear hw hw2;go_enter Tryz.func151,Tryz.ntmps151;go_wp2_with fail;go_ret2;exact⟨rfl,Below.refl _ _⟩
 ·have hwo:wordOut s.data.toList=(if isKw (s.data.toList.map low)then⟨(s.data.toList.map low).toArray⟩else⟨#[]⟩):=rfl;have hw:word s.data.toList=isKw (s.data.toList.map low):=rfl;go_enter Tryz.func151,Tryz.ntmps151;have HO:=Lib.hid hwo;have HW:=Lib.hid hw;clear hwo hw;go_wp2_with fail;refine(lex_lower s _ hs).mono ?_;rintro e w1 ⟨rfl,hb⟩;generalize s.data.toList.map low=L at HO HW ⊢
  have HB:=Lib.hid hb;clear hb;cases hk:isKw L
  ·have hne: ∀k,k∈kws→(L==k)=false:=by
    intro k hkm;cases hb:L==k
    ·rfl
    ·have:L=k:=by simpa using hb
     subst this;simp[isKw]at hk;exact absurd hkm hk
   simp only[kws,List.mem_cons,List.not_mem_nil,or_false,forall_eq_or_imp,forall_eq]at hne;obtain⟨h1,h2,h3,h4,h5,h6,h7,h8,h9,h10,h11,h12,h13,h14,h15,h16,h17,h18,h19,h20,h21,h22,h23⟩:=hne;have HK:=Lib.hid hk;clear hk;go_wp2_with fail;go_ret2;exact⟨ret_sb (by rw[HO.out,HK.out];rfl) (by rw[HW.out,HK.out]),HB.out⟩
  ·have hm:L∈kws:=by simpa [isKw]using hk
   simp only[kws,List.mem_cons,List.not_mem_nil,or_false]at hm;have HK:=Lib.hid hk;clear hk;rcases hm with rfl|rfl|rfl|rfl|rfl|rfl|rfl|rfl|rfl|rfl|rfl|rfl|rfl|rfl|rfl|rfl|rfl|rfl|rfl|rfl|rfl|rfl|rfl
   all_goals
    go_wp2_with fail;go_ret2;exact⟨ret_sb (by rw[HO.out,HK.out];rfl) (by rw[HW.out,HK.out]),HB.out⟩
structure PM where
 name:ByteArray
 op:Int
 value:ByteArray
structure PR where
 kind:Int
 kids:Int
 op:ByteArray
 text:ByteArray
 ms:List PM
 dur:ByteArray
 step:ByteArray
 off:ByteArray
 tim:ByteArray
 bool:Bool
 given:Bool
 on:Bool
 mls:List ByteArray
 card:Int
 inc:List ByteArray
 without:Bool
 labels:List ByteArray
def StrS (b:Nat) (w:World) (v:Value) (ss:List ByteArray):Prop:=
 ∃ao c,v= .slice ao ss.length c∧ ∀j (h:j<ss.length),∃g o,ao=some ⟨g,o,none⟩∧b≤g∧g<w.heap.size∧w.cell? ⟨g,o+j,none⟩=some (.string ss[j])
def MatS (b:Nat) (w:World) (v:Value) (ms:List PM):Prop:=
 ∃ao c,v= .slice ao ms.length c∧ ∀j (h:j<ms.length),∃g o,ao=some ⟨g,o,none⟩∧b≤g∧g<w.heap.size∧w.cell? ⟨g,o+j*3,none⟩=some (.string ms[j].name)∧w.cell? ⟨g,o+j*3+1,none⟩=some (.int .i64 ms[j].op)∧w.cell? ⟨g,o+j*3+2,none⟩=some (.string ms[j].value)
theorem StrS.below {b:Nat} {w w':World} {v:Value} {ss:List ByteArray} (h:StrS b w v ss) (hb:Below w.heap.size w w'):StrS b w' v ss:=by
 obtain⟨ao,c,h1,h2⟩:=h;refine⟨ao,c,h1,fun j hj=>?_⟩;obtain⟨g,o,a,l,u,x⟩:=h2 j hj;exact⟨g,o,a,l,Nat.lt_of_lt_of_le u hb.size,(hb.cell (p:=⟨g,_,none⟩) u).trans x⟩
theorem MatS.below {b:Nat} {w w':World} {v:Value} {ms:List PM} (h:MatS b w v ms) (hb:Below w.heap.size w w'):MatS b w' v ms:=by
 obtain⟨ao,c,h1,h2⟩:=h;refine⟨ao,c,h1,fun j hj=>?_⟩;obtain⟨g,o,a,l,u,x,y,z⟩:=h2 j hj;exact⟨g,o,a,l,Nat.lt_of_lt_of_le u hb.size,(hb.cell (p:=⟨g,_,none⟩) u).trans x,(hb.cell (p:=⟨g,_,none⟩) u).trans y,(hb.cell (p:=⟨g,_,none⟩) u).trans z⟩
theorem StrS.lo {b b':Nat} {w:World} {v:Value} {ss:List ByteArray} (h:StrS b w v ss) (hb:b'≤b):StrS b' w v ss:=by
 obtain⟨ao,c,h1,h2⟩:=h;refine⟨ao,c,h1,fun j hj=>?_⟩;obtain⟨g,o,a,l,u⟩:=h2 j hj;exact⟨g,o,a,Nat.le_trans hb l,u⟩
theorem MatS.lo {b b':Nat} {w:World} {v:Value} {ms:List PM} (h:MatS b w v ms) (hb:b'≤b):MatS b' w v ms:=by
 obtain⟨ao,c,h1,h2⟩:=h;refine⟨ao,c,h1,fun j hj=>?_⟩;obtain⟨g,o,a,l,u⟩:=h2 j hj;exact⟨g,o,a,Nat.le_trans hb l,u⟩
def rowV (r:PR) (m o i l:Value):Value:=
 .agg #[.int .i64 r.kind,.int .i64 r.kids,.string r.op,.string r.text,m,.string r.dur,.string r.step,.string r.off,.string r.tim,.bool r.bool,.bool r.given,.bool r.on,o,.int .i64 r.card,i,.bool r.without,l]
def rowCs (r:PR) (m o i l:Value):List Value:=
 [.int .i64 r.kind,.int .i64 r.kids,.string r.op,.string r.text,m,.string r.dur,.string r.step,.string r.off,.string r.tim,.bool r.bool,.bool r.given,.bool r.on,o,.int .i64 r.card,i,.bool r.without,l]
def RowLs (b:Nat) (w:World) (r:PR) (m o i l:Value):Prop:=MatS b w m r.ms∧StrS b w o r.mls∧StrS b w i r.inc∧StrS b w l r.labels
theorem RowLs.below {b:Nat} {w w':World} {r:PR} {m o i l:Value} (h:RowLs b w r m o i l) (hb:Below w.heap.size w w'):RowLs b w' r m o i l:=
 ⟨h.1.below hb,h.2.1.below hb,h.2.2.1.below hb,h.2.2.2.below hb⟩
theorem RowLs.lo {b b':Nat} {w:World} {r:PR} {m o i l:Value} (h:RowLs b w r m o i l) (hb:b'≤b):RowLs b' w r m o i l:=
 ⟨h.1.lo hb,h.2.1.lo hb,h.2.2.1.lo hb,h.2.2.2.lo hb⟩
def RowsS (b:Nat) (w:World) (v:Value) (rs:List PR):Prop:=
 ∃ao c,v= .slice ao rs.length c∧ ∀j (h:j<rs.length),∃g o,ao=some ⟨g,o,none⟩∧b≤g∧g<w.heap.size∧ ∃vm vo vi vl,RowLs b w rs[j] vm vo vi vl∧ ∀k (hk:k<17),w.cell? ⟨g,o+j*17+k,none⟩=some ((rowCs rs[j] vm vo vi vl)[k]'(by simp[rowCs];omega))
theorem RowsS.below {b:Nat} {w w':World} {v:Value} {rs:List PR} (h:RowsS b w v rs) (hb:Below w.heap.size w w'):RowsS b w' v rs:=by
 obtain⟨ao,c,h1,h2⟩:=h;refine⟨ao,c,h1,fun j hj=>?_⟩;obtain⟨g,o,a,l,u,vm,vo,vi,vl,x,y⟩:=h2 j hj;exact⟨g,o,a,l,Nat.lt_of_lt_of_le u hb.size,vm,vo,vi,vl,x.below hb,fun k hk=>(hb.cell (p:=⟨g,_,none⟩) u).trans (y k hk)⟩
end Go.Proofs.YtibcjfjacielbaaGreatDoor
