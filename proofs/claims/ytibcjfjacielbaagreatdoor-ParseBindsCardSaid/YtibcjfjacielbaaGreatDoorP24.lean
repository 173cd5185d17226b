import Derived.Test.YtibcjfjacielbaaGreatDoorP21
/- Part of the proof of YtibcjfjacielbaaGreatDoorCardP: LexN. -/
set_option maxRecDepth 100000
set_option maxHeartbeats 4000000
set_option linter.unusedVariables false
set_option linter.unusedSimpArgs false
namespace Go.Proofs.YtibcjfjacielbaaGreatDoor
open Go.RowKit
theorem TokPost.from {base p:Nat} {s:ByteArray} {at':Nat} {br sq:Bool} {ts:List Tok} {w w1 w':World} {r:TokR} {e:Ending} (h:TokPost base p s at' br sq ts w1 r e w') (hb:Below base w w1):TokPost base p s at' br sq ts w r e w':=by
 cases r with
 |bad k=>
  obtain⟨h1,v,h2,h3,h4⟩:=h;exact⟨h1,v,h2,h3,hb.trans h4⟩
 |tok k n b q=>exact PutPost.from h hb
theorem TokPost.ret {base p:Nat} {s:ByteArray} {at':Nat} {br sq:Bool} {ts:List Tok} {w w':World} {r:TokR} {e:Ending} (h:TokPost base p s at' br sq ts w r e w'): ∃k:Nat,e= .returned (.int .i64 (k:Int)):=by
 cases r with
 |bad k=>exact⟨k,h.1⟩
 |tok k n b q=>exact⟨0,h.1⟩
theorem quoteF {c:UInt8} (h1:((c.toNat:Int)==34)=false) (h2:((c.toNat:Int)==39)=false) (h3:((c.toNat:Int)==96)=false): ¬isQuote c=true:=by
 have n1:=litF (n:=34) (by omega) rfl h1;have n2:=litF (n:=39) (by omega) rfl h2;have n3:=litF (n:=96) (by omega) rfl h3;intro h;simp only[isQuote,Bool.or_eq_true,beq_iff_eq]at h;rcases h with(h|h)|h
 ·exact n1 h
 ·exact n2 h
 ·exact n3 h
theorem quoteT {c:UInt8} (h:(c.toNat:Int)=34∨(c.toNat:Int)=39∨(c.toNat:Int)=96):isQuote c=true:=by
 simp only[isQuote,Bool.or_eq_true,beq_iff_eq];rcases h with h|h|h
 ·exact .inl (.inl (u8_lit (n:=34) (by omega) (by omega)))
 ·exact .inl (.inr (u8_lit (n:=39) (by omega) (by omega)))
 ·exact .inr (u8_lit (n:=96) (by omega) (by omega))
theorem lex_token {ok:List UInt8→Prop} {T:Nat→World→Prop} (hT:NumT ok T) (w:World) (base p:Nat) (s:ByteArray) (at':Nat) (br sq:Bool) (v:Value) (ts:List Tok) (hs:s.size≤281474976710) (hat:at'<s.size) (hok:NumOk ok (s.data.toList.drop at')) (hTw:T base w)
  (hz:ZAt w p s at' br sq v) (hown:w.ownsRow base 81 3 v ts.length (toksCells ts)) (hlen:ts.length≤1099511627776) (hbp:base≤p):
  Calls Tryz.prog 92 #[.pointer (some ⟨p,0,none⟩)] w (TokPost base p s at' br sq ts w (tokenR (s.data.toList.drop at') br sq)):=by
 obtain⟨col,hcol⟩: ∃c,c=(!br&& !sq):=⟨_,rfl⟩;have H4:(br=false∧sq=false∧col=true)∨(br=false∧sq=true∧col=false)∨(br=true∧sq=false∧col=false)∨(br=true∧sq=true∧col=false):=by
  rw[hcol];cases br<;>cases sq<;>simp
 have HC:=Lib.hid hcol;clear hcol;have c0:w.cell? ⟨p,0,none⟩=some (.string s):=by rw[hz.cell];rfl
 have c1:w.cell? ⟨p,1,none⟩=some (.int .i64 (at':Int)):=by rw[hz.cell];rfl
 have q1:((at':Int)≤(s.size:Int))=True:=by simp;omega
 obtain⟨t,ht⟩: ∃t,t=s.extract at' s.size:=⟨_,rfl⟩;have htd:t.data.toList=s.data.toList.drop at':=by rw[ht,extract_from]
 have hts:t.size=s.size-at':=by rw[ht];simp
 have ht0:0<t.size:=by omega
 have hlt:=hz.lt;have HZ:=Lib.hid hz;have HO:=Lib.hid hown;have HD:=Lib.hid htd;have HT:=Lib.hid ht;have HW:=Lib.hid hTw;have HOK:=Lib.hid hok;clear hz hown htd ht hTw hok;go_enter Tryz.func92,Tryz.ntmps92;go_wp2_with fail;go_quiet (fail);rw[←HT.out];have hz2:ZAt (w.drewN nq) p s at' br sq v:=Blk.drewN HZ.out nq;have ho2:(w.drewN nq).ownsRow base 81 3 v ts.length (toksCells ts):=HO.out;have hb2:Below base w (w.drewN nq):=Go.below_drewN (Below.refl base w) nq;have ht2:=hT.keep HW.out hb2;generalize w.drewN nq=w2 at hz2 ho2 hb2 ht2 ⊢
 have d0:w2.cell? ⟨p,0,none⟩=some (.string s):=by rw[hz2.cell];rfl
 have d1:w2.cell? ⟨p,1,none⟩=some (.int .i64 (at':Int)):=by rw[hz2.cell];rfl
 have d2:w2.cell? ⟨p,2,none⟩=some (.bool br):=by rw[hz2.cell];rfl
 have d3:w2.cell? ⟨p,3,none⟩=some (.bool sq):=by rw[hz2.cell];rfl
 have hat0:atB t.data.toList 0=t[0]:=atB_lt ht0;have HZ2:=Lib.hid hz2;have HO2:=Lib.hid ho2;have HB2:=Lib.hid hb2;have HA:=Lib.hid hat0;have HT2:=Lib.hid ht2;have hB2:base≤w2.heap.size:=Nat.le_of_lt (Nat.lt_of_le_of_lt hbp hz2.lt);clear hz2 ho2 hb2 hat0 c0 c1 ht2;cases hl:letter t[0]
 ·rcases H4 with⟨hb,hq,rfl⟩|⟨hb,hq,rfl⟩|⟨hb,hq,rfl⟩|⟨hb,hq,rfl⟩
  all_goals
   cases e58:((t[0].toNat:Int)==58)
   ·cases hg:digit t[0]
    ·cases e46:((t[0].toNat:Int)==46)
     ·have hnn: ¬(digit t[0]=true∨(t[0].toNat=46∧1<t.data.toList.length∧digit (atB t.data.toList 1)=true)):=by
       rintro(h|⟨h,_⟩)
       ·rw[hg]at h;simp at h
       ·have:=neT e46;omega
      have HNN:=Lib.hid hnn;clear hnn;by_cases hqt:(t[0].toNat:Int)=34∨(t[0].toNat:Int)=39∨(t[0].toNat:Int)=96
      ·have HQT:=Lib.hid (quoteT hqt);have hqs:((t[0].toNat:Int)==34)=true∨(((t[0].toNat:Int)==34)=false∧((t[0].toNat:Int)==39)=true)∨(((t[0].toNat:Int)==34)=false∧((t[0].toNat:Int)==39)=false∧((t[0].toNat:Int)==96)=true):=by
        rcases hqt with q|q|q<;>rw[q]<;>decide
       clear hqt;rcases hqs with q34|⟨q34,q39⟩|⟨q34,q39,q96⟩
       all_goals
        have hR:tokenR t.data.toList br sq=strR t.data.toList br sq:=by
         rw[tokenR,HA.out,hl,if_neg (by simp),if_neg (by rintro⟨h,h'⟩;first|(have:=neT e58;omega)|(have h2:=HC.out;rw[h']at h2;cases h2)),if_neg HNN.out,if_pos HQT.out]
        have HR:=Lib.hid hR;clear hR;go_wp2_with (first|(go_at_call 141;refine(lex_letter _ _).mono ?_;rintro e w' ⟨rfl,rfl⟩)|(go_at_call 145;refine(lex_digit _ _).mono ?_;rintro e w' ⟨rfl,rfl⟩));go_quiet ((go_at_call 147;exact Calls.quiet_of_same ((utf_literal s at' _ (by omega)).mono fun _ _ ⟨h1,h2⟩=>⟨h1,h2.symm⟩)));have hz3:ZAt (w2.drewN nq) p s at' br sq v:=Blk.drewN HZ2.out nq;have ho3:(w2.drewN nq).ownsRow base 81 3 v ts.length (toksCells ts):=HO2.out;have hb3:Below base w (w2.drewN nq):=Go.below_drewN HB2.out nq;have g0:(w2.drewN nq).cell? ⟨p,0,none⟩=some (.string s):=d0;have g1:(w2.drewN nq).cell? ⟨p,1,none⟩=some (.int .i64 (at':Int)):=d1;clear d0 d1 d2 d3;generalize w2.drewN nq=w3 at hz3 ho3 hb3 g0 g1 ⊢
        have hle:=litEnd_drop s.data.toList at';rw[←HD.out]at hle;have HZ3:=Lib.hid hz3;have HO3:=Lib.hid ho3;have HB3:=Lib.hid hb3;clear hz3 ho3 hb3;cases he:litEnd t.data.toList 0 with
        |none=>
         rw[he]at hle;have hS:strR t.data.toList br sq= .bad 111:=by rw[strR,he]
         have HS:=Lib.hid hS;rw[hle];clear hS hle he;simp only[optN,optE,Option.map_none];go_wp2_with fail;go_ret;subst hb hq;rw[←HD.out,HR.out,HS.out];exact⟨rfl,v,HZ3.out,HO3.out,HB3.out⟩
        |some n=>
         rw[he]at hle;have hn:=litEnd_le he;rw[len_data]at hn;have hxt:(s.extract at' (n+at')).data.toList=t.data.toList.take n:=by
          rw[Lib.extract_data,HD.out,show n+at'-at'=n by omega]
         have hxs:(s.extract at' (n+at')).size≤281474976710:=by simp;omega
         have r1:((at':Int)≤(n:Int)+(at':Int))=True:=by simp;omega
         have r2:((n:Int)+(at':Int)≤(s.size:Int))=True:=by simp;omega
         have r3:(0≤(n:Int)+(at':Int))=True:=by simp;omega
         have r4:((n:Int)+(at':Int)).toNat=n+at':=by omega
         have hp3:p<w3.heap.size:=HZ3.out.lt;have HLE:=Lib.hid he;have HXT:=Lib.hid hxt;rw[hle];clear hle he hxt;simp only[optN,optE,Option.map_some];go_wp2_with fail;go_region_held3 (fun w'=>w'.cell? ⟨p,0,none⟩=some (.string s)∧w'.cell? ⟨p,1,none⟩=some (.int .i64 (at':Int))) (first|go_keep) (first|(go_at_call 148;refine(utf_unquote (s.extract at' (n+at')) _ hxs).mono ?_;rintro e w4 ⟨rfl,hb4⟩;have k0:w4.cell? ⟨p,0,none⟩=some (.string s):=(hb4.cell (p:=⟨p,0,none⟩) hp3).trans g0;have k1:w4.cell? ⟨p,1,none⟩=some (.int .i64 (at':Int)):=(hb4.cell (p:=⟨p,1,none⟩) hp3).trans g1;have HB4:=Lib.hid hb4;clear hb4));have hb4:=((Below.refl w3.heap.size w3).drew).trans HB4.out;have hz4:=HZ3.out.below hb4;have ho4:=own_belowT HO3.out hb4;have hb5:=HB3.out.trans (hb4.mono (Nat.le_of_lt (Nat.lt_of_le_of_lt hbp hp3)));have m1:w4.cell? ⟨p,1,none⟩=some (.int .i64 (at':Int)):=by rw[hz4.cell];rfl
         have hS:strR t.data.toList br sq=if (unquote (t.data.toList.take n)).1=0 then .tok 5 n br sq else .bad 111:=by rw[strR,HLE.out]
         rw[HD.out]at hS;obtain⟨uq,huq⟩: ∃uq,uq=(unquote (List.take n (List.drop at' s.data.toList))).1:=⟨_,rfl⟩;rw[←huq]at hS ⊢
         have HS:=Lib.hid hS;have HZ4:=Lib.hid hz4;have HO4:=Lib.hid ho4;have HB5:=Lib.hid hb5;clear hS huq hz4 ho4 hb5 hb4 g0 g1;cases hu:((uq:Int) != 0)
         ·go_wp2_with fail;refine(lex_put w4 base p s at' 5 n _ _ rfl (by first|rfl|omega) br sq v ts (by omega) (by omega) (by omega) HZ4.out HO4.out hlen hbp).mono ?_;intro e w5 hp;have h0:=hp.1;subst h0;have HQ:=Lib.hid (hp.from HB5.out);clear hp;go_wp2_with fail;go_ret;subst hb hq;rw[←HD.out,HR.out,HD.out,HS.out,if_pos (bneF hu)];exact HQ.out
         ·go_wp2_with fail;go_ret;subst hb hq;rw[←HD.out,HR.out,HD.out,HS.out,if_neg (bneT hu)];exact⟨rfl,v,HZ4.out,HO4.out,HB5.out⟩
      ·have q34:((t[0].toNat:Int)==34)=false:=beq_eq_false_iff_ne.2 (fun e=>hqt (.inl e));have q39:((t[0].toNat:Int)==39)=false:=beq_eq_false_iff_ne.2 (fun e=>hqt (.inr (.inl e)));have q96:((t[0].toNat:Int)==96)=false:=beq_eq_false_iff_ne.2 (fun e=>hqt (.inr (.inr e)));clear hqt;have HQF:=Lib.hid (quoteF q34 q39 q96);have hR:tokenR t.data.toList br sq=opR t.data.toList br sq:=by
        rw[tokenR,HA.out,hl,if_neg (by simp),if_neg (by rintro⟨h,h'⟩;first|(have:=neT e58;omega)|(have h2:=HC.out;rw[h']at h2;cases h2)),if_neg HNN.out,if_neg HQF.out]
       have HR:=Lib.hid hR;clear hR;go_wp2_with (first|(go_at_call 141;refine(lex_letter _ _).mono ?_;rintro e w' ⟨rfl,rfl⟩)|(go_at_call 145;refine(lex_digit _ _).mono ?_;rintro e w' ⟨rfl,rfl⟩));refine(lex_operator w2 base p s at' br sq v ts (by omega) hat HZ2.out HO2.out hlen hbp).mono ?_;intro e w5 hp;obtain⟨k0,h0⟩:=TokPost.ret hp;subst h0;have HQ:=Lib.hid (hp.from HB2.out);clear hp;go_wp2_with fail;go_ret;subst hb hq;rw[←HD.out,HR.out]
       first
        |exact HQ.out
        |(rw[HD.out];exact HQ.out)
     ·by_cases h1:1<t.size
      ·have ha1:atB t.data.toList 1=t[1]:=atB_lt h1;cases hg1:digit t[1]
       ·have hnn: ¬(digit t[0]=true∨(t[0].toNat=46∧1<t.data.toList.length∧digit (atB t.data.toList 1)=true)):=by
         rintro(h|⟨_,_,h⟩)
         ·rw[hg]at h;simp at h
         ·rw[ha1,hg1]at h;simp at h
        have HNN:=Lib.hid hnn;clear hnn ha1;have q34:((t[0].toNat:Int)==34)=false:=by have:=eqT e46;rw[this];rfl
        have q39:((t[0].toNat:Int)==39)=false:=by have:=eqT e46;rw[this];rfl
        have q96:((t[0].toNat:Int)==96)=false:=by have:=eqT e46;rw[this];rfl
        have HQF:=Lib.hid (quoteF q34 q39 q96);have hR:tokenR t.data.toList br sq=opR t.data.toList br sq:=by
         rw[tokenR,HA.out,hl,if_neg (by simp),if_neg (by rintro⟨h,h'⟩;first|(have:=neT e58;omega)|(have h2:=HC.out;rw[h']at h2;cases h2)),if_neg HNN.out,if_neg HQF.out]
        have HR:=Lib.hid hR;clear hR;go_wp2_with (first|(go_at_call 141;refine(lex_letter _ _).mono ?_;rintro e w' ⟨rfl,rfl⟩)|(go_at_call 145;refine(lex_digit _ _).mono ?_;rintro e w' ⟨rfl,rfl⟩));refine(lex_operator w2 base p s at' br sq v ts (by omega) hat HZ2.out HO2.out hlen hbp).mono ?_;intro e w5 hp;obtain⟨k0,h0⟩:=TokPost.ret hp;subst h0;have HQ:=Lib.hid (hp.from HB2.out);clear hp;go_wp2_with fail;go_ret;subst hb hq;rw[←HD.out,HR.out]
        first
         |exact HQ.out
         |(rw[HD.out];exact HQ.out)
       ·have hw:t[0].toNat=46∧1<t.data.toList.length∧digit (atB t.data.toList 1)=true:=⟨by have:=eqT e46;omega,by rw[len_data];exact h1,by rw[ha1];exact hg1⟩;have HNW:=Lib.hid hw;clear hw ha1;have hR:tokenR t.data.toList br sq=numberR t.data.toList br sq:=by
         rw[tokenR,HA.out,hl,if_neg (by simp),if_neg (by rintro⟨h,h'⟩;first|(have:=neT e58;omega)|(have h2:=HC.out;rw[h']at h2;cases h2)),if_pos (.inr HNW.out)]
        have HR:=Lib.hid hR;clear hR;go_wp2_with (first|(go_at_call 141;refine(lex_letter _ _).mono ?_;rintro e w' ⟨rfl,rfl⟩)|(go_at_call 145;refine(lex_digit _ _).mono ?_;rintro e w' ⟨rfl,rfl⟩));refine(lex_number hT w2 base p s at' br sq v ts (by omega) hat (HOK.out (by rw[←HD.out,numHead,HA.out];exact(.inr HNW.out))) HT2.out HZ2.out HO2.out hlen hbp).mono ?_;intro e w5 hp;obtain⟨k0,h0⟩:=TokPost.ret hp;subst h0;have HQ:=Lib.hid (hp.from HB2.out);clear hp;go_wp2_with fail;go_ret;subst hb hq;rw[←HD.out,HR.out]
        first
         |exact HQ.out
         |(rw[HD.out];exact HQ.out)
      ·have hnn: ¬(digit t[0]=true∨(t[0].toNat=46∧1<t.data.toList.length∧digit (atB t.data.toList 1)=true)):=by
        rintro(h|⟨_,h,_⟩)
        ·rw[hg]at h;simp at h
        ·rw[len_data]at h;exact h1 h
       have HNN:=Lib.hid hnn;clear hnn;have q34:((t[0].toNat:Int)==34)=false:=by have:=eqT e46;rw[this];rfl
       have q39:((t[0].toNat:Int)==39)=false:=by have:=eqT e46;rw[this];rfl
       have q96:((t[0].toNat:Int)==96)=false:=by have:=eqT e46;rw[this];rfl
       have HQF:=Lib.hid (quoteF q34 q39 q96);have hR:tokenR t.data.toList br sq=opR t.data.toList br sq:=by
        rw[tokenR,HA.out,hl,if_neg (by simp),if_neg (by rintro⟨h,h'⟩;first|(have:=neT e58;omega)|(have h2:=HC.out;rw[h']at h2;cases h2)),if_neg HNN.out,if_neg HQF.out]
       have HR:=Lib.hid hR;clear hR;go_wp2_with (first|(go_at_call 141;refine(lex_letter _ _).mono ?_;rintro e w' ⟨rfl,rfl⟩)|(go_at_call 145;refine(lex_digit _ _).mono ?_;rintro e w' ⟨rfl,rfl⟩));refine(lex_operator w2 base p s at' br sq v ts (by omega) hat HZ2.out HO2.out hlen hbp).mono ?_;intro e w5 hp;obtain⟨k0,h0⟩:=TokPost.ret hp;subst h0;have HQ:=Lib.hid (hp.from HB2.out);clear hp;go_wp2_with fail;go_ret;subst hb hq;rw[←HD.out,HR.out]
       first
        |exact HQ.out
        |(rw[HD.out];exact HQ.out)
    ·have hR:tokenR t.data.toList br sq=numberR t.data.toList br sq:=by
      rw[tokenR,HA.out,hl,if_neg (by simp),if_neg (by rintro⟨h,h'⟩;first|(have:=neT e58;omega)|(have h2:=HC.out;rw[h']at h2;cases h2)),if_pos (.inl hg)]
     have HR:=Lib.hid hR;clear hR;go_wp2_with (first|(go_at_call 141;refine(lex_letter _ _).mono ?_;rintro e w' ⟨rfl,rfl⟩)|(go_at_call 145;refine(lex_digit _ _).mono ?_;rintro e w' ⟨rfl,rfl⟩));refine(lex_number hT w2 base p s at' br sq v ts (by omega) hat (HOK.out (by rw[←HD.out,numHead,HA.out];exact(.inl hg))) HT2.out HZ2.out HO2.out hlen hbp).mono ?_;intro e w5 hp;obtain⟨k0,h0⟩:=TokPost.ret hp;subst h0;have HQ:=Lib.hid (hp.from HB2.out);clear hp;go_wp2_with fail;go_ret;subst hb hq;rw[←HD.out,HR.out]
     first
      |exact HQ.out
      |(rw[HD.out];exact HQ.out)
   ·first
    |have hg:digit t[0]=false:=by have:=eqT e58;simp[digit];omega
     have e46:((t[0].toNat:Int)==46)=false:=beq_eq_false_iff_ne.2 (by have:=eqT e58;omega);have hnn: ¬(digit t[0]=true∨(t[0].toNat=46∧1<t.data.toList.length∧digit (atB t.data.toList 1)=true)):=by
      rintro(h|⟨h,_⟩)
      ·rw[hg]at h;simp at h
      ·have:=neT e46;omega
     have HNN:=Lib.hid hnn;clear hnn;have q34:((t[0].toNat:Int)==34)=false:=beq_eq_false_iff_ne.2 (by have:=eqT e58;omega);have q39:((t[0].toNat:Int)==39)=false:=beq_eq_false_iff_ne.2 (by have:=eqT e58;omega);have q96:((t[0].toNat:Int)==96)=false:=beq_eq_false_iff_ne.2 (by have:=eqT e58;omega);have HQF:=Lib.hid (quoteF q34 q39 q96);have hR:tokenR t.data.toList br sq=opR t.data.toList br sq:=by
      rw[tokenR,HA.out,hl,if_neg (by simp),if_neg (by rintro⟨h,h'⟩;first|(have:=neT e58;omega)|(have h2:=HC.out;rw[h']at h2;cases h2)),if_neg HNN.out,if_neg HQF.out]
     have HR:=Lib.hid hR;clear hR;go_wp2_with (first|(go_at_call 141;refine(lex_letter _ _).mono ?_;rintro e w' ⟨rfl,rfl⟩)|(go_at_call 145;refine(lex_digit _ _).mono ?_;rintro e w' ⟨rfl,rfl⟩));refine(lex_operator w2 base p s at' br sq v ts (by omega) hat HZ2.out HO2.out hlen hbp).mono ?_;intro e w5 hp;obtain⟨k0,h0⟩:=TokPost.ret hp;subst h0;have HQ:=Lib.hid (hp.from HB2.out);clear hp;go_wp2_with fail;go_ret;subst hb hq;rw[←HD.out,HR.out]
     first
      |exact HQ.out
      |(rw[HD.out];exact HQ.out)
    |have hn1:=spanEnd_ge (nameCh true) t.data.toList 1
     have hn:=spanEnd_le (nameCh true) t.data.toList 1 (by rw[len_data];omega);rw[len_data]at hn;obtain⟨n,hnn⟩: ∃n,n=spanEnd (nameCh true) t.data.toList 1:=⟨_,rfl⟩;rw[←hnn]at hn hn1;have hR:tokenR t.data.toList br sq= .tok 2 n br sq:=by
      rw[tokenR,HA.out,hl,if_neg (by simp),if_pos ⟨by have:=eqT e58;omega,HC.out.symm⟩,hnn]
     have HR:=Lib.hid hR;have HN:=Lib.hid hnn;clear hR hnn;go_wp2_with (first|(go_at_call 141;refine(lex_letter _ _).mono ?_;rintro e w' ⟨rfl,rfl⟩)|(go_at_call 145;refine(lex_digit _ _).mono ?_;rintro e w' ⟨rfl,rfl⟩));refine(lex_nameEnd t 1 true _ (by unfold maxLen;omega) (by decide)).mono ?_;rintro e w3 ⟨rfl,rfl⟩;rw[←HN.out];go_wp2_with fail;refine(lex_put w2 base p s at' 2 n _ _ rfl rfl br sq v ts (by omega) (by omega) (by omega) HZ2.out HO2.out hlen hbp).mono ?_;intro e w5 hp;have h0:=hp.1;subst h0;have HQ:=Lib.hid (hp.from HB2.out);clear hp;go_wp2_with fail;go_ret;subst hb hq;rw[←HD.out,HR.out]
     first
      |exact HQ.out
      |(rw[HD.out];exact HQ.out)
 ·rcases H4 with⟨hb,hq,rfl⟩|⟨hb,hq,rfl⟩|⟨hb,hq,rfl⟩|⟨hb,hq,rfl⟩
  all_goals
   have hn:=spanEnd_le (nameCh (!br&& !sq)) t.data.toList 0 (Nat.zero_le _);rw[len_data]at hn;obtain⟨n,hnn⟩: ∃n,n=spanEnd (nameCh (!br&& !sq)) t.data.toList 0:=⟨_,rfl⟩;rw[←hnn]at hn;have hR:tokenR t.data.toList br sq= .tok (nameTok br (t.data.toList.take n)) n br sq:=by
    rw[tokenR,HA.out,if_pos hl,hnn]
   have HR:=Lib.hid hR;rw[←HC.out]at hnn;have HN:=Lib.hid hnn;clear hR hnn;go_wp2_with (first|(go_at_call 141;refine(lex_letter _ _).mono ?_;rintro e w' ⟨rfl,rfl⟩)|(go_at_call 145;refine(lex_digit _ _).mono ?_;rintro e w' ⟨rfl,rfl⟩));refine(lex_nameEnd t 0 _ _ (by unfold maxLen;omega) (by decide)).mono ?_;rintro e w3 ⟨rfl,rfl⟩;rw[←HN.out];go_wp2_with fail;refine(lex_name w2 base p s at' n _ rfl br sq v ts (by omega) (by omega) HZ2.out HO2.out hlen hbp).mono ?_;intro e w5 hp;have h0:=hp.1;subst h0;have HQ:=Lib.hid (hp.from HB2.out);clear hp;go_wp2_with fail;go_ret;subst hb hq;rw[←HD.out,HR.out]
   first
    |exact HQ.out
    |(rw[HD.out];exact HQ.out)
end Go.Proofs.YtibcjfjacielbaaGreatDoor
