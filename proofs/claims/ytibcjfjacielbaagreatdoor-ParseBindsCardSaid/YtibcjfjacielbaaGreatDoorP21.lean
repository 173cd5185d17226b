import Derived.Test.YtibcjfjacielbaaGreatDoorP07
import Derived.Test.YtibcjfjacielbaaGreatDoorP09
import Derived.Test.YtibcjfjacielbaaGreatDoorP20
/- Part of the proof of YtibcjfjacielbaaGreatDoorCardP: LexE LexF. -/
set_option maxRecDepth 100000
set_option maxHeartbeats 4000000
set_option linter.unusedVariables false
set_option linter.unusedSimpArgs false
namespace Go.Proofs.YtibcjfjacielbaaGreatDoor
open Go.RowKit
def numHead (l:List UInt8):Prop:=digit (atB l 0)=true∨((atB l 0).toNat=46∧1<l.length∧digit (atB l 1)=true)
def NumOk (ok:List UInt8→Prop) (l:List UInt8):Prop:=numHead l→ ¬numPrefix l<spanPrefix l→ok (l.take (numPrefix l))
structure NumT (ok:List UInt8→Prop) (T:Nat→World→Prop):Prop where
 keep: ∀{B w w'},T B w→Below B w w'→T B w'
 mono: ∀{B B' w},T B w→B≤B'→T B' w
 read: ∀(s:ByteArray) (B:Nat) (w:World),ok s.data.toList→T B w→B≤w.heap.size→s.size≤281474976710656→
  Calls Tryz.prog 204 #[.string s] w fun e w'=>(∃v,e= .returned (.tuple #[v,.int .i64 (numErr s.data.toList:Nat)]))∧Below w.heap.size w w'
def TokPost (base p:Nat) (s:ByteArray) (at':Nat) (br sq:Bool) (ts:List Tok) (w:World):TokR→Ending→World→Prop
 | .bad k,e,w'=>e= .returned (.int .i64 (k:Nat))∧ ∃v,ZAt w' p s at' br sq v∧w'.ownsRow base 81 3 v ts.length (toksCells ts)∧Below base w w'
 | .tok kind n br' sq',e,w'=>PutPost base p s (at'+n) br' sq' (ts++[⟨kind,(s.data.toList.drop at').take n,at'⟩]) w e w'
theorem lex_number {ok:List UInt8→Prop} {T:Nat→World→Prop} (hT:NumT ok T) (w:World) (base p:Nat) (s:ByteArray) (at':Nat) (br sq:Bool) (v:Value) (ts:List Tok) (hs:s.size≤281474976710656) (hat:at'<s.size) (hok: ¬numPrefix (s.data.toList.drop at')<spanPrefix (s.data.toList.drop at')→ok ((s.data.toList.drop at').take (numPrefix (s.data.toList.drop at')))) (hTw:T base w)
  (hz:ZAt w p s at' br sq v) (hown:w.ownsRow base 81 3 v ts.length (toksCells ts)) (hlen:ts.length≤1099511627776) (hbp:base≤p):
  Calls Tryz.prog 146 #[.pointer (some ⟨p,0,none⟩)] w (TokPost base p s at' br sq ts w (numberR (s.data.toList.drop at') br sq)):=by
 have c0:w.cell? ⟨p,0,none⟩=some (.string s):=by rw[hz.cell];rfl
 have c1:w.cell? ⟨p,1,none⟩=some (.int .i64 (at':Int)):=by rw[hz.cell];rfl
 have q1:((at':Int)≤(s.size:Int))=True:=by simp;omega
 obtain⟨t,ht⟩: ∃t,t=s.extract at' s.size:=⟨_,rfl⟩;have htd:t.data.toList=s.data.toList.drop at':=by rw[ht,extract_from]
 have hts:t.size=s.size-at':=by rw[ht];simp
 rw[←htd]at hok ⊢
 have HOK:=Lib.hid hok;clear hok;have hlt:=hz.lt;have HZ:=Lib.hid hz;have HO:=Lib.hid hown;have HD:=Lib.hid htd;have HT:=Lib.hid ht;have HW:=Lib.hid hTw;clear hz hown htd ht hTw;go_enter Tryz.func146,Tryz.ntmps146;go_wp2_with fail;go_quiet (fail);rw[←HT.out];have hbn:Below w.heap.size w (w.drewN nq):=Go.below_drewN (Below.refl w.heap.size w) nq;generalize w.drewN nq=w2 at hbn ⊢
 go_wp2_with fail;refine(num_Prefix t _ (by omega)).mono ?_;rintro e w3 ⟨rfl,rfl⟩;go_wp2_with fail;refine(span_Prefix t _ (by omega)).mono ?_;rintro e w3 ⟨rfl,hb3⟩;have hbw:=hbn.trans (hb3.mono hbn.size);clear hb3 hbn;have h1:=numPrefix_le t.data.toList;have h2:=spanPrefix_le t.data.toList;rw[len_data]at h1 h2;obtain⟨np,hnp⟩: ∃k,numPrefix t.data.toList=k:=⟨_,rfl⟩;obtain⟨sp,hsp⟩: ∃k,spanPrefix t.data.toList=k:=⟨_,rfl⟩;rw[hnp]at h1;rw[hsp]at h2;rw[hnp,hsp];have hz3:=HZ.out.below hbw;have ho3:=own_belowT HO.out hbw;have hTw3:=hT.keep HW.out (hbw.mono (Nat.le_of_lt (Nat.lt_of_le_of_lt hbp hlt)));have hB3:base≤w3.heap.size:=Nat.le_of_lt (Nat.lt_of_le_of_lt hbp hz3.lt);have hbb:=hbw.mono (Nat.le_of_lt (Nat.lt_of_le_of_lt hbp hlt));have HNP:=Lib.hid hnp;have HSP:=Lib.hid hsp;have HZ3:=Lib.hid hz3;have HO3:=Lib.hid ho3;have HBB:=Lib.hid hbb;have HTW:=Lib.hid hTw3;clear hnp hsp hz3 ho3 hbb hTw3 hbw c0 c1;have hbad: ∀(w':World),numberR t.data.toList br sq= .bad 112→Below base w3 w'→Below w3.heap.size w3 w'→TokPost base p s at' br sq ts w (numberR t.data.toList br sq) (.returned (.int .i64 112)) w':=by
  intro w' h hb1 hb2;rw[h];exact⟨rfl,v,HZ3.out.below hb2,own_belowT HO3.out hb2,HBB.out.trans hb1⟩
 have HBAD:=Lib.hid hbad;clear hbad;cases hd:decide (np<sp)
 ·obtain⟨hk,hn,he⟩:=num_num HNP.out (by rw[HSP.out];exact of_decide_eq_false hd);have HN:=Lib.hid hn;have HK:=Lib.hid hk;have HE:=Lib.hid he;clear hk hn he;have HOK2:=Lib.hid (HOK.out (by rw[HNP.out,HSP.out];exact of_decide_eq_false hd));by_cases hlt2:np<t.size
  ·have hFe:=numFault_in HN.out hlt2;have hb2:((t[np].toNat:Int)==46)=(t[np].toNat==46):=by rw[Bool.eq_iff_iff];simp;omega
   cases hl:letter t[np]
   ·cases hg:digit t[np]
    ·cases h46:((t[np].toNat:Int)==46)
     ·have hF:numFault t.data.toList=false:=by rw[hFe,hl,hg,←hb2,h46];rfl
      clear hFe hb2;go_wp2_with (first|(go_at_call 141;refine(lex_letter _ _).mono ?_;rintro e w' ⟨rfl,rfl⟩)|(go_at_call 145;refine(lex_digit _ _).mono ?_;rintro e w' ⟨rfl,rfl⟩));refine(hT.read (t.extract 0 np) base _ (by rw[extract_to,←HNP.out];exact HOK2.out) HTW.out hB3 (by simp;omega)).mono ?_;rintro e w4 ⟨⟨fv,rfl⟩,hb4⟩;rw[extract_to,←HE.out];have hz4:=HZ3.out.below hb4;have ho4:=own_belowT HO3.out hb4;have hb5:=hb4.mono hB3;have HZ4:=Lib.hid hz4;have HO4:=Lib.hid ho4;have HB4:=Lib.hid hb4;have HB5:=Lib.hid hb5;clear hz4 ho4 hb4 hb5;cases hz:((numBad t.data.toList:Int) != 0)
      ·have hR:=numberR_ok (br:=br) (sq:=sq) HK.out HN.out hF (bneF hz);have HR:=Lib.hid hR;clear hR;go_wp2_with fail;refine(lex_put w4 base p s at' 3 np _ _ rfl rfl br sq v ts hs (by omega) (by omega) HZ4.out HO4.out hlen hbp).mono ?_;intro e w5 hp;have h0:=hp.1;subst h0;have HQ:=Lib.hid (hp.from (HBB.out.trans HB5.out));clear hp;go_wp2_with fail;go_ret;rw[HR.out];exact HQ.out
      ·have hR:=numberR_bad (br:=br) (sq:=sq) hF (bneT hz);have HR:=Lib.hid hR;clear hR;go_wp2_with fail;go_ret;exact HBAD.out w4 HR.out HB5.out HB4.out
     ·have hF:numFault t.data.toList=true:=by rw[hFe,hl,hg,←hb2,h46];rfl
      have HF:=Lib.hid hF;clear hFe hb2 hF;go_wp2_with (first|(go_at_call 141;refine(lex_letter _ _).mono ?_;rintro e w' ⟨rfl,rfl⟩)|(go_at_call 145;refine(lex_digit _ _).mono ?_;rintro e w' ⟨rfl,rfl⟩));go_ret;exact HBAD.out w3 (numberR_fault HF.out) (Below.refl _ _) (Below.refl _ _)
    ·have hF:numFault t.data.toList=true:=by rw[hFe,hl,hg];rfl
     have HF:=Lib.hid hF;clear hFe hb2 hF;go_wp2_with (first|(go_at_call 141;refine(lex_letter _ _).mono ?_;rintro e w' ⟨rfl,rfl⟩)|(go_at_call 145;refine(lex_digit _ _).mono ?_;rintro e w' ⟨rfl,rfl⟩));go_ret;exact HBAD.out w3 (numberR_fault HF.out) (Below.refl _ _) (Below.refl _ _)
   ·have hF:numFault t.data.toList=true:=by rw[hFe,hl];rfl
    have HF:=Lib.hid hF;clear hFe hb2 hF;go_wp2_with (first|(go_at_call 141;refine(lex_letter _ _).mono ?_;rintro e w' ⟨rfl,rfl⟩)|(go_at_call 145;refine(lex_digit _ _).mono ?_;rintro e w' ⟨rfl,rfl⟩));go_ret;exact HBAD.out w3 (numberR_fault HF.out) (Below.refl _ _) (Below.refl _ _)
  ·have hF:=numFault_out HN.out hlt2;go_wp2_with (first|(go_at_call 141;refine(lex_letter _ _).mono ?_;rintro e w' ⟨rfl,rfl⟩)|(go_at_call 145;refine(lex_digit _ _).mono ?_;rintro e w' ⟨rfl,rfl⟩));refine(hT.read (t.extract 0 np) base _ (by rw[extract_to,←HNP.out];exact HOK2.out) HTW.out hB3 (by simp;omega)).mono ?_;rintro e w4 ⟨⟨fv,rfl⟩,hb4⟩;rw[extract_to,←HE.out];have hz4:=HZ3.out.below hb4;have ho4:=own_belowT HO3.out hb4;have hb5:=hb4.mono hB3;have HZ4:=Lib.hid hz4;have HO4:=Lib.hid ho4;have HB4:=Lib.hid hb4;have HB5:=Lib.hid hb5;clear hz4 ho4 hb4 hb5;cases hz:((numBad t.data.toList:Int) != 0)
   ·have hR:=numberR_ok (br:=br) (sq:=sq) HK.out HN.out hF (bneF hz);have HR:=Lib.hid hR;clear hR;go_wp2_with fail;refine(lex_put w4 base p s at' 3 np _ _ rfl rfl br sq v ts hs (by omega) (by omega) HZ4.out HO4.out hlen hbp).mono ?_;intro e w5 hp;have h0:=hp.1;subst h0;have HQ:=Lib.hid (hp.from (HBB.out.trans HB5.out));clear hp;go_wp2_with fail;go_ret;rw[HR.out];exact HQ.out
   ·have hR:=numberR_bad (br:=br) (sq:=sq) hF (bneT hz);have HR:=Lib.hid hR;clear hR;go_wp2_with fail;go_ret;exact HBAD.out w4 HR.out HB5.out HB4.out
 ·obtain⟨hk,hn,he⟩:=num_span HSP.out (by rw[HNP.out];exact of_decide_eq_true hd);have HN:=Lib.hid hn;have HK:=Lib.hid hk;have HE:=Lib.hid he;clear hk hn he;by_cases hlt2:sp<t.size
  ·have hFe:=numFault_in HN.out hlt2;have hb2:((t[sp].toNat:Int)==46)=(t[sp].toNat==46):=by rw[Bool.eq_iff_iff];simp;omega
   cases hl:letter t[sp]
   ·cases hg:digit t[sp]
    ·cases h46:((t[sp].toNat:Int)==46)
     ·have hF:numFault t.data.toList=false:=by rw[hFe,hl,hg,←hb2,h46];rfl
      clear hFe hb2;go_wp2_with (first|(go_at_call 141;refine(lex_letter _ _).mono ?_;rintro e w' ⟨rfl,rfl⟩)|(go_at_call 145;refine(lex_digit _ _).mono ?_;rintro e w' ⟨rfl,rfl⟩));refine(span_Parse (t.extract 0 sp) _).mono ?_;rintro e w4 ⟨rfl,hb4⟩;rw[extract_to,←HE.out];have hz4:=HZ3.out.below hb4;have ho4:=own_belowT HO3.out hb4;have hb5:=hb4.mono hB3;have HZ4:=Lib.hid hz4;have HO4:=Lib.hid ho4;have HB4:=Lib.hid hb4;have HB5:=Lib.hid hb5;clear hz4 ho4 hb4 hb5;cases hz:((numBad t.data.toList:Int) != 0)
      ·have hR:=numberR_ok (br:=br) (sq:=sq) HK.out HN.out hF (bneF hz);have HR:=Lib.hid hR;clear hR;go_wp2_with fail;refine(lex_put w4 base p s at' 4 sp _ _ rfl rfl br sq v ts hs (by omega) (by omega) HZ4.out HO4.out hlen hbp).mono ?_;intro e w5 hp;have h0:=hp.1;subst h0;have HQ:=Lib.hid (hp.from (HBB.out.trans HB5.out));clear hp;go_wp2_with fail;go_ret;rw[HR.out];exact HQ.out
      ·have hR:=numberR_bad (br:=br) (sq:=sq) hF (bneT hz);have HR:=Lib.hid hR;clear hR;go_wp2_with fail;go_ret;exact HBAD.out w4 HR.out HB5.out HB4.out
     ·have hF:numFault t.data.toList=true:=by rw[hFe,hl,hg,←hb2,h46];rfl
      have HF:=Lib.hid hF;clear hFe hb2 hF;go_wp2_with (first|(go_at_call 141;refine(lex_letter _ _).mono ?_;rintro e w' ⟨rfl,rfl⟩)|(go_at_call 145;refine(lex_digit _ _).mono ?_;rintro e w' ⟨rfl,rfl⟩));go_ret;exact HBAD.out w3 (numberR_fault HF.out) (Below.refl _ _) (Below.refl _ _)
    ·have hF:numFault t.data.toList=true:=by rw[hFe,hl,hg];rfl
     have HF:=Lib.hid hF;clear hFe hb2 hF;go_wp2_with (first|(go_at_call 141;refine(lex_letter _ _).mono ?_;rintro e w' ⟨rfl,rfl⟩)|(go_at_call 145;refine(lex_digit _ _).mono ?_;rintro e w' ⟨rfl,rfl⟩));go_ret;exact HBAD.out w3 (numberR_fault HF.out) (Below.refl _ _) (Below.refl _ _)
   ·have hF:numFault t.data.toList=true:=by rw[hFe,hl];rfl
    have HF:=Lib.hid hF;clear hFe hb2 hF;go_wp2_with (first|(go_at_call 141;refine(lex_letter _ _).mono ?_;rintro e w' ⟨rfl,rfl⟩)|(go_at_call 145;refine(lex_digit _ _).mono ?_;rintro e w' ⟨rfl,rfl⟩));go_ret;exact HBAD.out w3 (numberR_fault HF.out) (Below.refl _ _) (Below.refl _ _)
  ·have hF:=numFault_out HN.out hlt2;go_wp2_with (first|(go_at_call 141;refine(lex_letter _ _).mono ?_;rintro e w' ⟨rfl,rfl⟩)|(go_at_call 145;refine(lex_digit _ _).mono ?_;rintro e w' ⟨rfl,rfl⟩));refine(span_Parse (t.extract 0 sp) _).mono ?_;rintro e w4 ⟨rfl,hb4⟩;rw[extract_to,←HE.out];have hz4:=HZ3.out.below hb4;have ho4:=own_belowT HO3.out hb4;have hb5:=hb4.mono hB3;have HZ4:=Lib.hid hz4;have HO4:=Lib.hid ho4;have HB4:=Lib.hid hb4;have HB5:=Lib.hid hb5;clear hz4 ho4 hb4 hb5;cases hz:((numBad t.data.toList:Int) != 0)
   ·have hR:=numberR_ok (br:=br) (sq:=sq) HK.out HN.out hF (bneF hz);have HR:=Lib.hid hR;clear hR;go_wp2_with fail;refine(lex_put w4 base p s at' 4 sp _ _ rfl rfl br sq v ts hs (by omega) (by omega) HZ4.out HO4.out hlen hbp).mono ?_;intro e w5 hp;have h0:=hp.1;subst h0;have HQ:=Lib.hid (hp.from (HBB.out.trans HB5.out));clear hp;go_wp2_with fail;go_ret;rw[HR.out];exact HQ.out
   ·have hR:=numberR_bad (br:=br) (sq:=sq) hF (bneT hz);have HR:=Lib.hid hR;clear hR;go_wp2_with fail;go_ret;exact HBAD.out w4 HR.out HB5.out HB4.out
theorem TokPost.put {base p:Nat} {s:ByteArray} {at':Nat} {br sq br' sq':Bool} {ts:List Tok} {w w1 w':World} {k n:Nat} {r:TokR} {e:Ending} (hr:r= .tok k n br' sq') (hb:Below base w w1)
  (h:PutPost base p s (at'+n) br' sq' (ts++[⟨k,(s.data.toList.drop at').take n,at'⟩]) w1 e w'):TokPost base p s at' br sq ts w r e w':=by
 subst hr;exact h.from hb
theorem ops2_no {L:List UInt8} (g0:(L==[61,61])=false) (g1:(L==[33,61])=false) (g2:(L==[61,126])=false) (g3:(L==[33,126])=false) (g4:(L==[60,61])=false) (g5:(L==[62,61])=false):ops2.contains L=false:=by
 simp only[beq_eq_false_iff_ne]at g0 g1 g2 g3 g4 g5;simp only[ops2,List.contains_eq_mem,decide_eq_false_iff_not,List.mem_cons,List.not_mem_nil,or_false];rintro(h|h|h|h|h|h)
 ·exact g0 h
 ·exact g1 h
 ·exact g2 h
 ·exact g3 h
 ·exact g4 h
 ·exact g5 h
theorem ops2_cases (L:List UInt8):((L==[61,61])=true)∨((L==[61,61])=false∧(L==[33,61])=true)∨((L==[61,61])=false∧(L==[33,61])=false∧(L==[61,126])=true)∨((L==[61,61])=false∧(L==[33,61])=false∧(L==[61,126])=false∧(L==[33,126])=true)∨((L==[61,61])=false∧(L==[33,61])=false∧(L==[61,126])=false∧(L==[33,126])=false∧(L==[60,61])=true)∨((L==[61,61])=false∧(L==[33,61])=false∧(L==[61,126])=false∧(L==[33,126])=false∧(L==[60,61])=false∧(L==[62,61])=true)∨((L==[61,61])=false∧(L==[33,61])=false∧(L==[61,126])=false∧(L==[33,126])=false∧(L==[60,61])=false∧(L==[62,61])=false):=by
 cases (L==[61,61])<;>cases (L==[33,61])<;>cases (L==[61,126])<;>cases (L==[33,126])<;>cases (L==[60,61])<;>cases (L==[62,61])<;>simp
theorem ops1_cases (n:Nat):(n=123∨n=125∨n=91∨n=93)∨(n=40∨n=41∨n=44∨n=58∨n=61∨n=60∨n=62∨n=43∨n=45∨n=42∨n=47∨n=37∨n=94∨n=64)∨(((n:Int)==123)=false∧((n:Int)==125)=false∧((n:Int)==91)=false∧((n:Int)==93)=false∧((n:Int)==40)=false∧((n:Int)==41)=false∧((n:Int)==44)=false∧((n:Int)==58)=false∧((n:Int)==61)=false∧((n:Int)==60)=false∧((n:Int)==62)=false∧((n:Int)==43)=false∧((n:Int)==45)=false∧((n:Int)==42)=false∧((n:Int)==47)=false∧((n:Int)==37)=false∧((n:Int)==94)=false∧((n:Int)==64)=false∧n≠123∧n≠125∧n≠91∧n≠93∧n≠40∧n≠41∧n≠44∧n≠58∧n≠61∧n≠60∧n≠62∧n≠43∧n≠45∧n≠42∧n≠47∧n≠37∧n≠94∧n≠64):=by
 by_cases h1:n=123∨n=125∨n=91∨n=93
 ·exact .inl h1
 ·by_cases h2:n=40∨n=41∨n=44∨n=58∨n=61∨n=60∨n=62∨n=43∨n=45∨n=42∨n=47∨n=37∨n=94∨n=64
  ·exact .inr (.inl h2)
  ·refine .inr (.inr ⟨?_,?_,?_,?_,?_,?_,?_,?_,?_,?_,?_,?_,?_,?_,?_,?_,?_,?_,?_,?_,?_,?_,?_,?_,?_,?_,?_,?_,?_,?_,?_,?_,?_,?_,?_,?_⟩)
   all_goals first|omega|(refine beq_eq_false_iff_ne.2 ?_;omega)
theorem lex_operator (w:World) (base p:Nat) (s:ByteArray) (at':Nat) (br sq:Bool) (v:Value) (ts:List Tok) (hs:s.size≤281474976710656) (hat:at'<s.size)
  (hz:ZAt w p s at' br sq v) (hown:w.ownsRow base 81 3 v ts.length (toksCells ts)) (hlen:ts.length≤1099511627776) (hbp:base≤p):
  Calls Tryz.prog 149 #[.pointer (some ⟨p,0,none⟩)] w (TokPost base p s at' br sq ts w (opR (s.data.toList.drop at') br sq)):=by
 have c0:w.cell? ⟨p,0,none⟩=some (.string s):=by rw[hz.cell];rfl
 have c1:w.cell? ⟨p,1,none⟩=some (.int .i64 (at':Int)):=by rw[hz.cell];rfl
 have q1:((at':Int)≤(s.size:Int))=True:=by simp;omega
 obtain⟨t,ht⟩: ∃t,t=s.extract at' s.size:=⟨_,rfl⟩;have htd:t.data.toList=s.data.toList.drop at':=by rw[ht,extract_from]
 have hts:t.size=s.size-at':=by rw[ht];simp
 have ht0:0<t.size:=by omega
 rw[←htd];have HZ:=Lib.hid hz;have HO:=Lib.hid hown;have HD:=Lib.hid htd;have HT:=Lib.hid ht;clear hz hown htd ht;go_enter Tryz.func149,Tryz.ntmps149;go_wp2_with fail;go_quiet (fail);rw[←HT.out];have hz2:ZAt (w.drewN nq) p s at' br sq v:=Blk.drewN HZ.out nq;have ho2:(w.drewN nq).ownsRow base 81 3 v ts.length (toksCells ts):=HO.out;have hb2:Below base w (w.drewN nq):=Go.below_drewN (Below.refl base w) nq;generalize w.drewN nq=w2 at hz2 ho2 hb2 ⊢
 have d2:w2.cell? ⟨p,2,none⟩=some (.bool br):=by rw[hz2.cell];rfl
 have d3:w2.cell? ⟨p,3,none⟩=some (.bool sq):=by rw[hz2.cell];rfl
 have f2:w2.frozen? ⟨p,2,none⟩=false:=hz2.frozen 2;have f3:w2.frozen? ⟨p,3,none⟩=false:=hz2.frozen 3;have hat0:(atB t.data.toList 0).toNat=t[0].toNat:=by rw[atB_lt ht0]
 have HZ2:=Lib.hid hz2;have HO2:=Lib.hid ho2;have HB2:=Lib.hid hb2;have HA:=Lib.hid hat0;clear hz2 ho2 hb2 hat0 c0 c1;obtain⟨L,hL⟩: ∃L,L=t.data.toList.take 2:=⟨_,rfl⟩;have hD:(1<t.size∧op2 t.data.toList=ops2.contains L)∨(¬1<t.size∧op2 t.data.toList=false):=by
  by_cases h1:1<t.size
  ·exact .inl ⟨h1,by rw[op2,len_data,decide_eq_true h1,Bool.true_and,hL]⟩
  ·exact .inr ⟨h1,by rw[op2,len_data,decide_eq_false h1,Bool.false_and]⟩
 have hLs:t.extract 0 2=⟨L.toArray⟩:=by rw[hL,←mk_data (t.extract 0 2),extract_to]
 have HL:=Lib.hid hLs;clear hL hLs;rcases hD with⟨h1,hop2⟩|⟨h1,hop⟩
 ·have HOP2:=Lib.hid hop2;clear hop2;go_upto_region 4 with fail
  rw[HL.out];rcases ops2_cases L with g0|⟨g0,g1⟩|⟨g0,g1,g2⟩|⟨g0,g1,g2,g3⟩|⟨g0,g1,g2,g3,g4⟩|⟨g0,g1,g2,g3,g4,g5⟩|⟨g0,g1,g2,g3,g4,g5⟩
  iterate 6
   ·have hR:opR t.data.toList br sq= .tok 6 2 br sq:=opR_two (by(first|rw[HOP2.out,beq_iff_eq.1 g5]|rw[HOP2.out,beq_iff_eq.1 g4]|rw[HOP2.out,beq_iff_eq.1 g3]|rw[HOP2.out,beq_iff_eq.1 g2]|rw[HOP2.out,beq_iff_eq.1 g1]|rw[HOP2.out,beq_iff_eq.1 g0]);rfl);have HR:=Lib.hid hR;clear hR;go_wp2_with fail;refine(lex_put w2 base p s at' 6 2 _ _ rfl rfl br sq v ts hs (by omega) (by omega) HZ2.out HO2.out hlen hbp).mono ?_;intro e w5 hp;have h0:=hp.1;subst h0;have HQ:=Lib.hid (TokPost.put (br:=br) (sq:=sq) HR.out HB2.out hp);clear hp;go_wp2_with fail;go_ret;exact HQ.out
  have hop:op2 t.data.toList=false:=by
   rw[HOP2.out];exact ops2_no g0 g1 g2 g3 g4 g5
  have HOP:=Lib.hid hop;clear hop;go_upto_region 13 with fail
  rcases ops1_cases t[0].toNat with(hN|hN|hN|hN)|(hN|hN|hN|hN|hN|hN|hN|hN|hN|hN|hN|hN|hN|hN)|⟨e123,e125,e91,e93,e40,e41,e44,e58,e61,e60,e62,e43,e45,e42,e47,e37,e94,e64,n123,n125,n91,n93,n40,n41,n44,n58,n61,n60,n62,n43,n45,n42,n47,n37,n94,n64⟩
  ·have hR:opR t.data.toList br sq= .tok 6 1 true sq:=(opR_one HOP.out (HA.out.trans hN)).trans rfl;have hz4:=Blk.set_ HZ2.out 2 (.bool true);have hz3:ZAt (w2.setCell ⟨p,2,none⟩ (.bool true)) p s at' true sq v:=by simpa [ZAt]using hz4
   have ho3:=own_setBlk (i:=2) HO2.out HZ2.out (by decide) (.bool true);have hb3:=HB2.out.setCell (p:=⟨p,2,none⟩) hbp (.bool true);have HZ3:=Lib.hid hz3;have HO3:=Lib.hid ho3;have HB3:=Lib.hid hb3;clear hz4 hz3 ho3 hb3;have HR:=Lib.hid hR;clear hR;go_wp2_with fail;refine(lex_put _ base p s at' 6 1 _ _ rfl rfl true sq v ts hs (by omega) (by omega) HZ3.out HO3.out hlen hbp).mono ?_;intro e w5 hp;have h0:=hp.1;subst h0;have HQ:=Lib.hid (TokPost.put (br:=br) (sq:=sq) HR.out HB3.out hp);clear hp;go_wp2_with fail;go_ret;exact HQ.out
  ·have hR:opR t.data.toList br sq= .tok 6 1 false sq:=(opR_one HOP.out (HA.out.trans hN)).trans rfl;have hz4:=Blk.set_ HZ2.out 2 (.bool false);have hz3:ZAt (w2.setCell ⟨p,2,none⟩ (.bool false)) p s at' false sq v:=by simpa [ZAt]using hz4
   have ho3:=own_setBlk (i:=2) HO2.out HZ2.out (by decide) (.bool false);have hb3:=HB2.out.setCell (p:=⟨p,2,none⟩) hbp (.bool false);have HZ3:=Lib.hid hz3;have HO3:=Lib.hid ho3;have HB3:=Lib.hid hb3;clear hz4 hz3 ho3 hb3;have HR:=Lib.hid hR;clear hR;go_wp2_with fail;refine(lex_put _ base p s at' 6 1 _ _ rfl rfl false sq v ts hs (by omega) (by omega) HZ3.out HO3.out hlen hbp).mono ?_;intro e w5 hp;have h0:=hp.1;subst h0;have HQ:=Lib.hid (TokPost.put (br:=br) (sq:=sq) HR.out HB3.out hp);clear hp;go_wp2_with fail;go_ret;exact HQ.out
  ·have hR:opR t.data.toList br sq= .tok 6 1 br true:=(opR_one HOP.out (HA.out.trans hN)).trans rfl;have hz4:=Blk.set_ HZ2.out 3 (.bool true);have hz3:ZAt (w2.setCell ⟨p,3,none⟩ (.bool true)) p s at' br true v:=by simpa [ZAt]using hz4
   have ho3:=own_setBlk (i:=3) HO2.out HZ2.out (by decide) (.bool true);have hb3:=HB2.out.setCell (p:=⟨p,3,none⟩) hbp (.bool true);have HZ3:=Lib.hid hz3;have HO3:=Lib.hid ho3;have HB3:=Lib.hid hb3;clear hz4 hz3 ho3 hb3;have HR:=Lib.hid hR;clear hR;go_wp2_with fail;refine(lex_put _ base p s at' 6 1 _ _ rfl rfl br true v ts hs (by omega) (by omega) HZ3.out HO3.out hlen hbp).mono ?_;intro e w5 hp;have h0:=hp.1;subst h0;have HQ:=Lib.hid (TokPost.put (br:=br) (sq:=sq) HR.out HB3.out hp);clear hp;go_wp2_with fail;go_ret;exact HQ.out
  ·have hR:opR t.data.toList br sq= .tok 6 1 br false:=(opR_one HOP.out (HA.out.trans hN)).trans rfl;have hz4:=Blk.set_ HZ2.out 3 (.bool false);have hz3:ZAt (w2.setCell ⟨p,3,none⟩ (.bool false)) p s at' br false v:=by simpa [ZAt]using hz4
   have ho3:=own_setBlk (i:=3) HO2.out HZ2.out (by decide) (.bool false);have hb3:=HB2.out.setCell (p:=⟨p,3,none⟩) hbp (.bool false);have HZ3:=Lib.hid hz3;have HO3:=Lib.hid ho3;have HB3:=Lib.hid hb3;clear hz4 hz3 ho3 hb3;have HR:=Lib.hid hR;clear hR;go_wp2_with fail;refine(lex_put _ base p s at' 6 1 _ _ rfl rfl br false v ts hs (by omega) (by omega) HZ3.out HO3.out hlen hbp).mono ?_;intro e w5 hp;have h0:=hp.1;subst h0;have HQ:=Lib.hid (TokPost.put (br:=br) (sq:=sq) HR.out HB3.out hp);clear hp;go_wp2_with fail;go_ret;exact HQ.out
  iterate 14
   ·have hR:opR t.data.toList br sq= .tok 6 1 br sq:=(opR_one HOP.out (HA.out.trans hN)).trans rfl;have HR:=Lib.hid hR;clear hR;go_wp2_with fail;refine(lex_put w2 base p s at' 6 1 _ _ rfl rfl br sq v ts hs (by omega) (by omega) HZ2.out HO2.out hlen hbp).mono ?_;intro e w5 hp;have h0:=hp.1;subst h0;have HQ:=Lib.hid (TokPost.put (br:=br) (sq:=sq) HR.out HB2.out hp);clear hp;go_wp2_with fail;go_ret;exact HQ.out
  ·have hR:opR t.data.toList br sq= .bad 110:=by
    rw[opR_one HOP.out HA.out,if_neg n123,if_neg n125,if_neg n91,if_neg n93,if_neg];simp[ops1];omega
   have HR:=Lib.hid hR;clear hR n123 n125 n91 n93 n40 n41 n44 n58 n61 n60 n62 n43 n45 n42 n47 n37 n94 n64;go_wp2_with fail;go_ret;rw[HR.out];exact⟨rfl,v,HZ2.out,HO2.out,HB2.out⟩
 ·have HOP:=Lib.hid hop;clear hop;go_upto_region 13 with fail
  rcases ops1_cases t[0].toNat with(hN|hN|hN|hN)|(hN|hN|hN|hN|hN|hN|hN|hN|hN|hN|hN|hN|hN|hN)|⟨e123,e125,e91,e93,e40,e41,e44,e58,e61,e60,e62,e43,e45,e42,e47,e37,e94,e64,n123,n125,n91,n93,n40,n41,n44,n58,n61,n60,n62,n43,n45,n42,n47,n37,n94,n64⟩
  ·have hR:opR t.data.toList br sq= .tok 6 1 true sq:=(opR_one HOP.out (HA.out.trans hN)).trans rfl;have hz4:=Blk.set_ HZ2.out 2 (.bool true);have hz3:ZAt (w2.setCell ⟨p,2,none⟩ (.bool true)) p s at' true sq v:=by simpa [ZAt]using hz4
   have ho3:=own_setBlk (i:=2) HO2.out HZ2.out (by decide) (.bool true);have hb3:=HB2.out.setCell (p:=⟨p,2,none⟩) hbp (.bool true);have HZ3:=Lib.hid hz3;have HO3:=Lib.hid ho3;have HB3:=Lib.hid hb3;clear hz4 hz3 ho3 hb3;have HR:=Lib.hid hR;clear hR;go_wp2_with fail;refine(lex_put _ base p s at' 6 1 _ _ rfl rfl true sq v ts hs (by omega) (by omega) HZ3.out HO3.out hlen hbp).mono ?_;intro e w5 hp;have h0:=hp.1;subst h0;have HQ:=Lib.hid (TokPost.put (br:=br) (sq:=sq) HR.out HB3.out hp);clear hp;go_wp2_with fail;go_ret;exact HQ.out
  ·have hR:opR t.data.toList br sq= .tok 6 1 false sq:=(opR_one HOP.out (HA.out.trans hN)).trans rfl;have hz4:=Blk.set_ HZ2.out 2 (.bool false);have hz3:ZAt (w2.setCell ⟨p,2,none⟩ (.bool false)) p s at' false sq v:=by simpa [ZAt]using hz4
   have ho3:=own_setBlk (i:=2) HO2.out HZ2.out (by decide) (.bool false);have hb3:=HB2.out.setCell (p:=⟨p,2,none⟩) hbp (.bool false);have HZ3:=Lib.hid hz3;have HO3:=Lib.hid ho3;have HB3:=Lib.hid hb3;clear hz4 hz3 ho3 hb3;have HR:=Lib.hid hR;clear hR;go_wp2_with fail;refine(lex_put _ base p s at' 6 1 _ _ rfl rfl false sq v ts hs (by omega) (by omega) HZ3.out HO3.out hlen hbp).mono ?_;intro e w5 hp;have h0:=hp.1;subst h0;have HQ:=Lib.hid (TokPost.put (br:=br) (sq:=sq) HR.out HB3.out hp);clear hp;go_wp2_with fail;go_ret;exact HQ.out
  ·have hR:opR t.data.toList br sq= .tok 6 1 br true:=(opR_one HOP.out (HA.out.trans hN)).trans rfl;have hz4:=Blk.set_ HZ2.out 3 (.bool true);have hz3:ZAt (w2.setCell ⟨p,3,none⟩ (.bool true)) p s at' br true v:=by simpa [ZAt]using hz4
   have ho3:=own_setBlk (i:=3) HO2.out HZ2.out (by decide) (.bool true);have hb3:=HB2.out.setCell (p:=⟨p,3,none⟩) hbp (.bool true);have HZ3:=Lib.hid hz3;have HO3:=Lib.hid ho3;have HB3:=Lib.hid hb3;clear hz4 hz3 ho3 hb3;have HR:=Lib.hid hR;clear hR;go_wp2_with fail;refine(lex_put _ base p s at' 6 1 _ _ rfl rfl br true v ts hs (by omega) (by omega) HZ3.out HO3.out hlen hbp).mono ?_;intro e w5 hp;have h0:=hp.1;subst h0;have HQ:=Lib.hid (TokPost.put (br:=br) (sq:=sq) HR.out HB3.out hp);clear hp;go_wp2_with fail;go_ret;exact HQ.out
  ·have hR:opR t.data.toList br sq= .tok 6 1 br false:=(opR_one HOP.out (HA.out.trans hN)).trans rfl;have hz4:=Blk.set_ HZ2.out 3 (.bool false);have hz3:ZAt (w2.setCell ⟨p,3,none⟩ (.bool false)) p s at' br false v:=by simpa [ZAt]using hz4
   have ho3:=own_setBlk (i:=3) HO2.out HZ2.out (by decide) (.bool false);have hb3:=HB2.out.setCell (p:=⟨p,3,none⟩) hbp (.bool false);have HZ3:=Lib.hid hz3;have HO3:=Lib.hid ho3;have HB3:=Lib.hid hb3;clear hz4 hz3 ho3 hb3;have HR:=Lib.hid hR;clear hR;go_wp2_with fail;refine(lex_put _ base p s at' 6 1 _ _ rfl rfl br false v ts hs (by omega) (by omega) HZ3.out HO3.out hlen hbp).mono ?_;intro e w5 hp;have h0:=hp.1;subst h0;have HQ:=Lib.hid (TokPost.put (br:=br) (sq:=sq) HR.out HB3.out hp);clear hp;go_wp2_with fail;go_ret;exact HQ.out
  iterate 14
   ·have hR:opR t.data.toList br sq= .tok 6 1 br sq:=(opR_one HOP.out (HA.out.trans hN)).trans rfl;have HR:=Lib.hid hR;clear hR;go_wp2_with fail;refine(lex_put w2 base p s at' 6 1 _ _ rfl rfl br sq v ts hs (by omega) (by omega) HZ2.out HO2.out hlen hbp).mono ?_;intro e w5 hp;have h0:=hp.1;subst h0;have HQ:=Lib.hid (TokPost.put (br:=br) (sq:=sq) HR.out HB2.out hp);clear hp;go_wp2_with fail;go_ret;exact HQ.out
  ·have hR:opR t.data.toList br sq= .bad 110:=by
    rw[opR_one HOP.out HA.out,if_neg n123,if_neg n125,if_neg n91,if_neg n93,if_neg];simp[ops1];omega
   have HR:=Lib.hid hR;clear hR n123 n125 n91 n93 n40 n41 n44 n58 n61 n60 n62 n43 n45 n42 n47 n37 n94 n64;go_wp2_with fail;go_ret;rw[HR.out];exact⟨rfl,v,HZ2.out,HO2.out,HB2.out⟩
end Go.Proofs.YtibcjfjacielbaaGreatDoor
