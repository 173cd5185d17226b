import Derived.Shelf.Strings.Builder1
import Derived.Shelf.Small.Strs
import Derived.Shelf.Strings.Search1
import Derived.Shelf.Strings.Search2
import Derived.Shelf.Strings.Search3
import Derived.Test.YtibcjfjacielbaaGreatDoorH11
import Derived.Lib.IndexAny
import Derived.Test.YtibcjfjacielbaaGreatDoorH13
/- Part of the proof of YtibcjfjacielbaaGreatDoorCardH: Shelf LexD LexE LexF LexN. -/
set_option maxRecDepth 100000
set_option maxHeartbeats 4000000
set_option linter.unusedVariables false
set_option linter.unusedSimpArgs false
namespace Go.Proofs
open Go.Shelf
open Go.Shelf
def Tryz.lays137_ren:Go.Shelf.Ren:=⟨fun|137=>91|217=>140|266=>198|n=>n,fun|9=>9|5=>5|3=>3|n=>n,fun|n=>n⟩
theorem Tryz.lays137:Go.Proofs.Lays.n137 Tryz.prog Tryz.lays137_ren:={
 mixed:=by kernel_rfl
 f137:=Tryz.func91.trans (congrArg some (by kernel_rfl))
 f217:=Tryz.func140.trans (congrArg some (by kernel_rfl))
 f266:=Tryz.func198.trans (congrArg some (by kernel_rfl))
 t3:=Tryz.underlying3
 a3:=Tryz.isAgg3
 z3:=Tryz.sizeOf3
 v3:=Tryz.zeroValue3
 t5:=Tryz.underlying5
 a5:=Tryz.isAgg5
 z5:=Tryz.sizeOf5
 v5:=Tryz.zeroValue5
 t9:=Tryz.underlying9
 a9:=Tryz.isAgg9
 z9:=Tryz.sizeOf9
 v9:=Tryz.zeroValue9}
open Go.RowKit in
theorem Tryz.strings_IndexByte (s:ByteArray) (c:Int) (w:World):
  Calls Tryz.prog 91 #[.string s,.int .u8 c] w fun e w'=>e= .returned (.int .i64 (Lib.indexByte s.data.toList c.toNat.toUInt8))∧w'=w:=Any.strings_IndexByte Tryz.lays137 s c w
def Tryz.lays144_ren:Go.Shelf.Ren:=⟨fun|144=>200|143=>232|219=>258|217=>140|225=>276|224=>277|267=>278|266=>198|314=>292|n=>n,fun|9=>9|4=>4|3=>3|5=>5|46=>220|146=>325|51=>256|n=>n,fun|1=>2|n=>n⟩
theorem Tryz.lays144:Go.Proofs.Lays.n144 Tryz.prog Tryz.lays144_ren:={
 mixed:=by kernel_rfl
 f143:=Tryz.func232.trans (congrArg some (by kernel_rfl))
 f144:=Tryz.func200.trans (congrArg some (by kernel_rfl))
 f217:=Tryz.func140.trans (congrArg some (by kernel_rfl))
 f219:=Tryz.func258.trans (congrArg some (by kernel_rfl))
 f224:=Tryz.func277.trans (congrArg some (by kernel_rfl))
 f225:=Tryz.func276.trans (congrArg some (by kernel_rfl))
 f266:=Tryz.func198.trans (congrArg some (by kernel_rfl))
 f267:=Tryz.func278.trans (congrArg some (by kernel_rfl))
 f314:=Tryz.func292.trans (congrArg some (by kernel_rfl))
 t3:=Tryz.underlying3
 a3:=Tryz.isAgg3
 z3:=Tryz.sizeOf3
 v3:=Tryz.zeroValue3
 t4:=Tryz.underlying4
 a4:=Tryz.isAgg4
 z4:=Tryz.sizeOf4
 v4:=Tryz.zeroValue4
 t5:=Tryz.underlying5
 a5:=Tryz.isAgg5
 z5:=Tryz.sizeOf5
 v5:=Tryz.zeroValue5
 t9:=Tryz.underlying9
 a9:=Tryz.isAgg9
 z9:=Tryz.sizeOf9
 v9:=Tryz.zeroValue9
 t46:=Tryz.underlying220
 a46:=Tryz.isAgg220
 z46:=Tryz.sizeOf220
 v46:=Tryz.zeroValue220
 t51:=Tryz.underlying256
 a51:=Tryz.isAgg256
 z51:=Tryz.sizeOf256
 v51:=Tryz.zeroValue256
 t146:=Tryz.underlying325
 a146:=Tryz.isAgg325
 z146:=Tryz.sizeOf325
 v146:=Tryz.zeroValue325
 g1:=by kernel_rfl}
open Go.RowKit Go.Lib in
theorem Tryz.strings_Contains_one (s:ByteArray) (c:UInt8) (w:World):
  Calls Tryz.prog 200 #[.string s,.string ⟨#[c]⟩] w fun e w'=>e= .returned (.bool (decide (0≤Lib.indexByte s.data.toList c)))∧w'=w:=Any.strings_Contains_one Tryz.lays144 s c w
end Go.Proofs
set_option linter.unusedVariables false
set_option linter.unusedSimpArgs false
namespace Go.Proofs.YtibcjfjacielbaaGreatDoor
open Go.RowKit
theorem own_belowT {w w':World} {base:Nat} {v:Value} {k:Nat} {xs:List Value} (h:w.ownsRow base 81 3 v k xs) (hb:Below w.heap.size w w'):w'.ownsRow base 81 3 v k xs:=
 own_grown (row:=none) h ⟨hb.os,hb.tape,hb.output,hb.size,fun i hi _=>hb.block i hi⟩ (by simp)
theorem ZAt.below {w w':World} {p:Nat} {s:ByteArray} {at':Nat} {br sq:Bool} {v:Value} (h:ZAt w p s at' br sq v) (hb:Below w.heap.size w w'):ZAt w' p s at' br sq v:=Blk.below h hb h.lt
theorem PutPost.from {base p:Nat} {s:ByteArray} {at':Nat} {br sq:Bool} {ts:List Tok} {w w1 w':World} {e:Ending} (h:PutPost base p s at' br sq ts w1 e w') (hb:Below base w w1):PutPost base p s at' br sq ts w e w':=by
 obtain⟨h1,v,h2,h3,h4⟩:=h;exact⟨h1,v,h2,h3,hb.trans h4⟩
theorem lex_name (w:World) (base p:Nat) (s:ByteArray) (at' n:Nat) (y:Int) (hy:y=(n:Int)) (br sq:Bool) (v:Value) (ts:List Tok) (hs:s.size≤281474976710656) (hn:at'+n≤s.size)
  (hz:ZAt w p s at' br sq v) (hown:w.ownsRow base 81 3 v ts.length (toksCells ts)) (hlen:ts.length≤1099511627776) (hbp:base≤p):
  Calls Tryz.prog 142 #[.pointer (some ⟨p,0,none⟩),.int .i64 y] w (PutPost base p s (at'+n) br sq (ts++[⟨nameTok br ((s.data.toList.drop at').take n),(s.data.toList.drop at').take n,at'⟩]) w):=by
 subst hy;have hw:IntKind.i64.wrap ((at':Int)+(n:Int))=((at'+n:Nat):Int):=by rw[IntKind.wrap_i64];omega
 have q1:(0≤(at':Int)+(n:Int))=True:=by simp;omega
 have q2:((at':Int)+(n:Int)≤(s.size:Int))=True:=by simp;omega
 have q3:((at':Int)≤(at':Int)+(n:Int))=True:=by simp;omega
 have q4:((at':Int)+(n:Int)).toNat=at'+n:=by omega
 have c0:w.cell? ⟨p,0,none⟩=some (.string s):=by rw[hz.cell];rfl
 have c1:w.cell? ⟨p,1,none⟩=some (.int .i64 (at':Int)):=by rw[hz.cell];rfl
 obtain⟨t,ht⟩: ∃t,t=s.extract at' (at'+n):=⟨_,rfl⟩;have htd:t.data.toList=(s.data.toList.drop at').take n:=by rw[ht,Lib.extract_data,show at'+n-at'=n by omega]
 have hts:t.size=n:=by rw[ht];simp;omega
 rw[←htd];have hlt:=hz.lt;have HZ:=Lib.hid hz;have HO:=Lib.hid hown;have HD:=Lib.hid htd;have HT:=Lib.hid ht;clear hz hown htd ht;go_enter Tryz.func142,Tryz.ntmps142;go_wp2_with fail;go_quiet (fail);have hz2:=HZ.out.below ((Go.below_drewN (Below.refl w.heap.size w) nq));have ho2:=own_belowT HO.out ((Go.below_drewN (Below.refl w.heap.size w) nq));have hb2:Below base w (w.drewN nq):=(Go.below_drewN (Below.refl base w) nq);rw[←HT.out];have d0:(w.drewN nq).cell? ⟨p,0,none⟩=some (.string s):=c0;generalize w.drewN nq=w2 at hz2 ho2 hb2 d0 ⊢
 go_wp2_with fail;refine(lex_lower _ _ (by simp;unfold maxLen;omega)).mono ?_;rintro e w3 ⟨rfl,hb3⟩;have hL:(t.extract 0 (min (n:Int) 4).toNat).data.toList.map low=(t.data.toList.take 4).map low:=by
  rw[extract_to];have:t.data.toList.length=n:=by rw[len_data];exact hts
  congr 1
  by_cases h:n≤4
  ·rw[List.take_of_length_le (by omega),List.take_of_length_le (by omega)]
  ·rw[show (min (n:Int) 4).toNat=4 by omega]
 rw[hL];have hz3:=hz2.below hb3;have ho3:=own_belowT ho2 hb3;have hbb:=hb2.trans (hb3.mono (Nat.le_of_lt (Nat.lt_of_le_of_lt hbp hz2.lt)));have d2:w3.cell? ⟨p,2,none⟩=some (.bool br):=by rw[hz3.cell];rfl
 obtain⟨L,hLd⟩: ∃L,L=(t.data.toList.take 4).map low:=⟨_,rfl⟩;rw[←hLd];have HZ3:=Lib.hid hz3;have HO3:=Lib.hid ho3;have HB:=Lib.hid hbb;have HLd:=Lib.hid hLd;clear hL hz3 ho3 hz2 ho2 hb2 hb3 d0 hbb hLd;go_wp2_with fail;refine(Tryz.strings_Contains_one t 58 _).mono ?_;rintro e w4 ⟨rfl,hw4⟩;subst hw4;rw[←Lib.contains_iff_indexByte];have hput:=fun k hk x (hx:x=((k:Nat):Int))=>lex_put w4 base p s at' k n x (n:Int) hx rfl br sq v ts hs hn hk HZ3.out HO3.out hlen hbp
 rw[←HD.out]at hput;have HP:=Lib.hid hput;clear hput;cases hc:t.data.toList.contains 58
 ·cases br
  ·cases h1:(L==[105,110,102])
   ·cases h2:(L==[110,97,110])
    ·have hk:nameTok false t.data.toList=1:=by
      rw[nameTok,hc,infnan,←HLd.out,h1,h2];rfl
     have HK:=Lib.hid hk;clear hk;go_wp2_with fail;refine(HP.out 1 (by omega) _ rfl).mono ?_;intro e w5 hp;have h0:=hp.1;subst h0;have HQ:=Lib.hid (hp.from HB.out);clear hp;go_wp2_with fail;go_ret;rw[HK.out];exact HQ.out
    ·have hk:nameTok false t.data.toList=3:=by
      rw[nameTok,hc,infnan,←HLd.out,h1,h2];rfl
     have HK:=Lib.hid hk;clear hk;go_wp2_with fail;refine(HP.out 3 (by omega) _ rfl).mono ?_;intro e w5 hp;have h0:=hp.1;subst h0;have HQ:=Lib.hid (hp.from HB.out);clear hp;go_wp2_with fail;go_ret;rw[HK.out];exact HQ.out
   ·have hk:nameTok false t.data.toList=3:=by
     rw[nameTok,hc,infnan,←HLd.out,h1];rfl
    have HK:=Lib.hid hk;clear hk;go_wp2_with fail;refine(HP.out 3 (by omega) _ rfl).mono ?_;intro e w5 hp;have h0:=hp.1;subst h0;have HQ:=Lib.hid (hp.from HB.out);clear hp;go_wp2_with fail;go_ret;rw[HK.out];exact HQ.out
  ·have hk:nameTok true t.data.toList=1:=by
    rw[nameTok,hc];rfl
   have HK:=Lib.hid hk;clear hk;go_wp2_with fail;refine(HP.out 1 (by omega) _ rfl).mono ?_;intro e w5 hp;have h0:=hp.1;subst h0;have HQ:=Lib.hid (hp.from HB.out);clear hp;go_wp2_with fail;go_ret;rw[HK.out];exact HQ.out
 ·have hk:nameTok br t.data.toList=2:=by
   rw[nameTok,hc];rfl
  have HK:=Lib.hid hk;clear hk;go_wp2_with fail;refine(HP.out 2 (by omega) _ rfl).mono ?_;intro e w5 hp;have h0:=hp.1;subst h0;have HQ:=Lib.hid (hp.from HB.out);clear hp;go_wp2_with fail;go_ret;rw[HK.out];exact HQ.out
def numHead (l:List UInt8):Prop:=digit (atB l 0)=true∨((atB l 0).toNat=46∧1<l.length∧digit (atB l 1)=true)
def NumOk (ok:List UInt8→Prop) (l:List UInt8):Prop:=numHead l→ ¬numPrefix l<spanPrefix l→ok (l.take (numPrefix l))
structure NumT (ok:List UInt8→Prop) (T:Nat→World→Prop):Prop where
 keep: ∀{B w w'},T B w→Below B w w'→T B w'
 mono: ∀{B B' w},T B w→B≤B'→T B' w
 read: ∀(s:ByteArray) (B:Nat) (w:World),ok s.data.toList→T B w→B≤w.heap.size→s.size≤281474976710656→
  Calls Tryz.prog 204 #[.string s] w fun e w'=>(∃v,e= .returned (.tuple #[v,.int .i64 (numErr s.data.toList:Nat)]))∧Below w.heap.size w w'
def TokPost (base p:Nat) (s:ByteArray) (at':Nat) (br sq:Bool) (ts:List Tok) (w:World):TokR→Ending→World→Prop
 | .bad k,e,w'=>e= .returned (.int .i64 (k:Nat))∧ ∃v,ZAt w' p s at' br sq v∧w'.ownsRow base 81 3 v ts.length (toksCells ts)∧Below base w w'
 | .tok kind n br' sq',e,w'=>PutPost base p s (at'+n) br' sq' (ts++[⟨kind,(s.data.toList.drop at').take n,at'⟩]) w e w'
theorem lex_number {ok:List UInt8→Prop} {T:Nat→World→Prop} (hT:NumT ok T) (w:World) (base p:Nat) (s:ByteArray) (at':Nat) (br sq:Bool) (v:Value) (ts:List Tok) (hs:s.size≤281474976710656) (hat:at'<s.size) (hok: ¬numPrefix (s.data.toList.drop at')<spanPrefix (s.data.toList.drop at')→ok ((s.data.toList.drop at').take (numPrefix (s.data.toList.drop at')))) (hTw:T base w)
  (hz:ZAt w p s at' br sq v) (hown:w.ownsRow base 81 3 v ts.length (toksCells ts)) (hlen:ts.length≤1099511627776) (hbp:base≤p):
  Calls Tryz.prog 146 #[.pointer (some ⟨p,0,none⟩)] w (TokPost base p s at' br sq ts w (numberR (s.data.toList.drop at') br sq)):=by
 have c0:w.cell? ⟨p,0,none⟩=some (.string s):=by rw[hz.cell];rfl
 have c1:w.cell? ⟨p,1,none⟩=some (.int .i64 (at':Int)):=by rw[hz.cell];rfl
 have q1:((at':Int)≤(s.size:Int))=True:=by simp;omega
 obtain⟨t,ht⟩: ∃t,t=s.extract at' s.size:=⟨_,rfl⟩;have htd:t.data.toList=s.data.toList.drop at':=by rw[ht,extract_from]
 have hts:t.size=s.size-at':=by rw[ht];simp
 rw[←htd]at hok ⊢
 have HOK:=Lib.hid hok;clear hok;have hlt:=hz.lt;have HZ:=Lib.hid hz;have HO:=Lib.hid hown;have HD:=Lib.hid htd;have HT:=Lib.hid ht;have HW:=Lib.hid hTw;clear hz hown htd ht hTw;go_enter Tryz.func146,Tryz.ntmps146;go_wp2_with fail;go_quiet (fail);rw[←HT.out];have hbn:Below w.heap.size w (w.drewN nq):=Go.below_drewN (Below.refl w.heap.size w) nq;generalize w.drewN nq=w2 at hbn ⊢
 go_wp2_with fail;refine(num_Prefix t _ (by omega)).mono ?_;rintro e w3 ⟨rfl,rfl⟩;go_wp2_with fail;refine(span_Prefix t _ (by omega)).mono ?_;rintro e w3 ⟨rfl,hb3⟩;have hbw:=hbn.trans (hb3.mono hbn.size);clear hb3 hbn;have h1:=numPrefix_le t.data.toList;have h2:=spanPrefix_le t.data.toList;rw[len_data]at h1 h2;obtain⟨np,hnp⟩: ∃k,numPrefix t.data.toList=k:=⟨_,rfl⟩;obtain⟨sp,hsp⟩: ∃k,spanPrefix t.data.toList=k:=⟨_,rfl⟩;rw[hnp]at h1;rw[hsp]at h2;rw[hnp,hsp];have hz3:=HZ.out.below hbw;have ho3:=own_belowT HO.out hbw;have hTw3:=hT.keep HW.out (hbw.mono (Nat.le_of_lt (Nat.lt_of_le_of_lt hbp hlt)));have hB3:base≤w3.heap.size:=Nat.le_of_lt (Nat.lt_of_le_of_lt hbp hz3.lt);have hbb:=hbw.mono (Nat.le_of_lt (Nat.lt_of_le_of_lt hbp hlt));have HNP:=Lib.hid hnp;have HSP:=Lib.hid hsp;have HZ3:=Lib.hid hz3;have HO3:=Lib.hid ho3;have HBB:=Lib.hid hbb;have HTW:=Lib.hid hTw3;clear hnp hsp hz3 ho3 hbb hTw3 hbw c0 c1;have hbad: ∀(w':World),numberR t.data.toList br sq= .bad 112→Below base w3 w'→Below w3.heap.size w3 w'→TokPost base p s at' br sq ts w (numberR t.data.toList br sq) (.returned (.int .i64 112)) w':=by
  intro w' h hb1 hb2;rw[h];exact⟨rfl,v,HZ3.out.below hb2,own_belowT HO3.out hb2,HBB.out.trans hb1⟩
 have HBAD:=Lib.hid hbad;clear hbad;cases hd:decide (np<sp)
 ·obtain⟨hk,hn,he⟩:=num_num HNP.out (by rw[HSP.out];exact of_decide_eq_false hd);have HN:=Lib.hid hn;have HK:=Lib.hid hk;have HE:=Lib.hid he;clear hk hn he;have HOK2:=Lib.hid (HOK.out (by rw[HNP.out,HSP.out];exact of_decide_eq_false hd));by_cases hlt2:np<t.size
  ·have hFe:=numFault_in HN.out hlt2;have hb2:((t[np].toNat:Int)==46)=(t[np].toNat==46):=by rw[Bool.eq_iff_iff];simp;omega
   cases hl:letter t[np]
   ·cases hg:digit t[np]
    ·cases h46:((t[np].toNat:Int)==46)
     ·have hF:numFault t.data.toList=false:=by rw[hFe,hl,hg,←hb2,h46];rfl
      clear hFe hb2;go_wp2_with (first|(go_at_call 141;refine(lex_letter _ _).mono ?_;rintro e w' ⟨rfl,rfl⟩)|(go_at_call 145;refine(lex_digit _ _).mono ?_;rintro e w' ⟨rfl,rfl⟩));refine(hT.read (t.extract 0 np) base _ (by rw[extract_to,←HNP.out];exact HOK2.out) HTW.out hB3 (by simp;omega)).mono ?_;rintro e w4 ⟨⟨fv,rfl⟩,hb4⟩;rw[extract_to,←HE.out];have hz4:=HZ3.out.below hb4;have ho4:=own_belowT HO3.out hb4;have hb5:=hb4.mono hB3;have HZ4:=Lib.hid hz4;have HO4:=Lib.hid ho4;have HB4:=Lib.hid hb4;have HB5:=Lib.hid hb5;clear hz4 ho4 hb4 hb5;cases hz:((numBad t.data.toList:Int) != 0)
      ·have hR:=numberR_ok (br:=br) (sq:=sq) HK.out HN.out hF (bneF hz);have HR:=Lib.hid hR;clear hR;go_wp2_with fail;refine(lex_put w4 base p s at' 3 np _ _ rfl rfl br sq v ts hs (by omega) (by omega) HZ4.out HO4.out hlen hbp).mono ?_;intro e w5 hp;have h0:=hp.1;subst h0;have HQ:=Lib.hid (hp.from (HBB.out.trans HB5.out));clear hp;go_wp2_with fail;go_ret;rw[HR.out];exact HQ.out
      ·have hR:=numberR_bad (br:=br) (sq:=sq) hF (bneT hz);have HR:=Lib.hid hR;clear hR;go_wp2_with fail;go_ret;exact HBAD.out w4 HR.out HB5.out HB4.out
     ·have hF:numFault t.data.toList=true:=by rw[hFe,hl,hg,←hb2,h46];rfl
      have HF:=Lib.hid hF;clear hFe hb2 hF;go_wp2_with (first|(go_at_call 141;refine(lex_letter _ _).mono ?_;rintro e w' ⟨rfl,rfl⟩)|(go_at_call 145;refine(lex_digit _ _).mono ?_;rintro e w' ⟨rfl,rfl⟩));go_ret;exact HBAD.out w3 (numberR_fault HF.out) (Below.refl _ _) (Below.refl _ _)
    ·have hF:numFault t.data.toList=true:=by rw[hFe,hl,hg];rfl
     have HF:=Lib.hid hF;clear hFe hb2 hF;go_wp2_with (first|(go_at_call 141;refine(lex_letter _ _).mono ?_;rintro e w' ⟨rfl,rfl⟩)|(go_at_call 145;refine(lex_digit _ _).mono ?_;rintro e w' ⟨rfl,rfl⟩));go_ret;exact HBAD.out w3 (numberR_fault HF.out) (Below.refl _ _) (Below.refl _ _)
   ·have hF:numFault t.data.toList=true:=by rw[hFe,hl];rfl
    have HF:=Lib.hid hF;clear hFe hb2 hF;go_wp2_with (first|(go_at_call 141;refine(lex_letter _ _).mono ?_;rintro e w' ⟨rfl,rfl⟩)|(go_at_call 145;refine(lex_digit _ _).mono ?_;rintro e w' ⟨rfl,rfl⟩));go_ret;exact HBAD.out w3 (numberR_fault HF.out) (Below.refl _ _) (Below.refl _ _)
  ·have hF:=numFault_out HN.out hlt2;go_wp2_with (first|(go_at_call 141;refine(lex_letter _ _).mono ?_;rintro e w' ⟨rfl,rfl⟩)|(go_at_call 145;refine(lex_digit _ _).mono ?_;rintro e w' ⟨rfl,rfl⟩));refine(hT.read (t.extract 0 np) base _ (by rw[extract_to,←HNP.out];exact HOK2.out) HTW.out hB3 (by simp;omega)).mono ?_;rintro e w4 ⟨⟨fv,rfl⟩,hb4⟩;rw[extract_to,←HE.out];have hz4:=HZ3.out.below hb4;have ho4:=own_belowT HO3.out hb4;have hb5:=hb4.mono hB3;have HZ4:=Lib.hid hz4;have HO4:=Lib.hid ho4;have HB4:=Lib.hid hb4;have HB5:=Lib.hid hb5;clear hz4 ho4 hb4 hb5;cases hz:((numBad t.data.toList:Int) != 0)
   ·have hR:=numberR_ok (br:=br) (sq:=sq) HK.out HN.out hF (bneF hz);have HR:=Lib.hid hR;clear hR;go_wp2_with fail;refine(lex_put w4 base p s at' 3 np _ _ rfl rfl br sq v ts hs (by omega) (by omega) HZ4.out HO4.out hlen hbp).mono ?_;intro e w5 hp;have h0:=hp.1;subst h0;have HQ:=Lib.hid (hp.from (HBB.out.trans HB5.out));clear hp;go_wp2_with fail;go_ret;rw[HR.out];exact HQ.out
   ·have hR:=numberR_bad (br:=br) (sq:=sq) hF (bneT hz);have HR:=Lib.hid hR;clear hR;go_wp2_with fail;go_ret;exact HBAD.out w4 HR.out HB5.out HB4.out
 ·obtain⟨hk,hn,he⟩:=num_span HSP.out (by rw[HNP.out];exact of_decide_eq_true hd);have HN:=Lib.hid hn;have HK:=Lib.hid hk;have HE:=Lib.hid he;clear hk hn he;by_cases hlt2:sp<t.size
  ·have hFe:=numFault_in HN.out hlt2;have hb2:((t[sp].toNat:Int)==46)=(t[sp].toNat==46):=by rw[Bool.eq_iff_iff];simp;omega
   cases hl:letter t[sp]
   ·cases hg:digit t[sp]
    ·cases h46:((t[sp].toNat:Int)==46)
     ·have hF:numFault t.data.toList=false:=by rw[hFe,hl,hg,←hb2,h46];rfl
      clear hFe hb2;go_wp2_with (first|(go_at_call 141;refine(lex_letter _ _).mono ?_;rintro e w' ⟨rfl,rfl⟩)|(go_at_call 145;refine(lex_digit _ _).mono ?_;rintro e w' ⟨rfl,rfl⟩));refine(span_Parse (t.extract 0 sp) _).mono ?_;rintro e w4 ⟨rfl,hb4⟩;rw[extract_to,←HE.out];have hz4:=HZ3.out.below hb4;have ho4:=own_belowT HO3.out hb4;have hb5:=hb4.mono hB3;have HZ4:=Lib.hid hz4;have HO4:=Lib.hid ho4;have HB4:=Lib.hid hb4;have HB5:=Lib.hid hb5;clear hz4 ho4 hb4 hb5;cases hz:((numBad t.data.toList:Int) != 0)
      ·have hR:=numberR_ok (br:=br) (sq:=sq) HK.out HN.out hF (bneF hz);have HR:=Lib.hid hR;clear hR;go_wp2_with fail;refine(lex_put w4 base p s at' 4 sp _ _ rfl rfl br sq v ts hs (by omega) (by omega) HZ4.out HO4.out hlen hbp).mono ?_;intro e w5 hp;have h0:=hp.1;subst h0;have HQ:=Lib.hid (hp.from (HBB.out.trans HB5.out));clear hp;go_wp2_with fail;go_ret;rw[HR.out];exact HQ.out
      ·have hR:=numberR_bad (br:=br) (sq:=sq) hF (bneT hz);have HR:=Lib.hid hR;clear hR;go_wp2_with fail;go_ret;exact HBAD.out w4 HR.out HB5.out HB4.out
     ·have hF:numFault t.data.toList=true:=by rw[hFe,hl,hg,←hb2,h46];rfl
      have HF:=Lib.hid hF;clear hFe hb2 hF;go_wp2_with (first|(go_at_call 141;refine(lex_letter _ _).mono ?_;rintro e w' ⟨rfl,rfl⟩)|(go_at_call 145;refine(lex_digit _ _).mono ?_;rintro e w' ⟨rfl,rfl⟩));go_ret;exact HBAD.out w3 (numberR_fault HF.out) (Below.refl _ _) (Below.refl _ _)
    ·have hF:numFault t.data.toList=true:=by rw[hFe,hl,hg];rfl
     have HF:=Lib.hid hF;clear hFe hb2 hF;go_wp2_with (first|(go_at_call 141;refine(lex_letter _ _).mono ?_;rintro e w' ⟨rfl,rfl⟩)|(go_at_call 145;refine(lex_digit _ _).mono ?_;rintro e w' ⟨rfl,rfl⟩));go_ret;exact HBAD.out w3 (numberR_fault HF.out) (Below.refl _ _) (Below.refl _ _)
   ·have hF:numFault t.data.toList=true:=by rw[hFe,hl];rfl
    have HF:=Lib.hid hF;clear hFe hb2 hF;go_wp2_with (first|(go_at_call 141;refine(lex_letter _ _).mono ?_;rintro e w' ⟨rfl,rfl⟩)|(go_at_call 145;refine(lex_digit _ _).mono ?_;rintro e w' ⟨rfl,rfl⟩));go_ret;exact HBAD.out w3 (numberR_fault HF.out) (Below.refl _ _) (Below.refl _ _)
  ·have hF:=numFault_out HN.out hlt2;go_wp2_with (first|(go_at_call 141;refine(lex_letter _ _).mono ?_;rintro e w' ⟨rfl,rfl⟩)|(go_at_call 145;refine(lex_digit _ _).mono ?_;rintro e w' ⟨rfl,rfl⟩));refine(span_Parse (t.extract 0 sp) _).mono ?_;rintro e w4 ⟨rfl,hb4⟩;rw[extract_to,←HE.out];have hz4:=HZ3.out.below hb4;have ho4:=own_belowT HO3.out hb4;have hb5:=hb4.mono hB3;have HZ4:=Lib.hid hz4;have HO4:=Lib.hid ho4;have HB4:=Lib.hid hb4;have HB5:=Lib.hid hb5;clear hz4 ho4 hb4 hb5;cases hz:((numBad t.data.toList:Int) != 0)
   ·have hR:=numberR_ok (br:=br) (sq:=sq) HK.out HN.out hF (bneF hz);have HR:=Lib.hid hR;clear hR;go_wp2_with fail;refine(lex_put w4 base p s at' 4 sp _ _ rfl rfl br sq v ts hs (by omega) (by omega) HZ4.out HO4.out hlen hbp).mono ?_;intro e w5 hp;have h0:=hp.1;subst h0;have HQ:=Lib.hid (hp.from (HBB.out.trans HB5.out));clear hp;go_wp2_with fail;go_ret;rw[HR.out];exact HQ.out
   ·have hR:=numberR_bad (br:=br) (sq:=sq) hF (bneT hz);have HR:=Lib.hid hR;clear hR;go_wp2_with fail;go_ret;exact HBAD.out w4 HR.out HB5.out HB4.out
theorem TokPost.put {base p:Nat} {s:ByteArray} {at':Nat} {br sq br' sq':Bool} {ts:List Tok} {w w1 w':World} {k n:Nat} {r:TokR} {e:Ending} (hr:r= .tok k n br' sq') (hb:Below base w w1)
  (h:PutPost base p s (at'+n) br' sq' (ts++[⟨k,(s.data.toList.drop at').take n,at'⟩]) w1 e w'):TokPost base p s at' br sq ts w r e w':=by
 subst hr;exact h.from hb
theorem ops2_no {L:List UInt8} (g0:(L==[61,61])=false) (g1:(L==[33,61])=false) (g2:(L==[61,126])=false) (g3:(L==[33,126])=false) (g4:(L==[60,61])=false) (g5:(L==[62,61])=false):ops2.contains L=false:=by
 simp only[beq_eq_false_iff_ne]at g0 g1 g2 g3 g4 g5;simp only[ops2,List.contains_eq_mem,decide_eq_false_iff_not,List.mem_cons,List.not_mem_nil,or_false];rintro(h|h|h|h|h|h)
 ·exact g0 h
 ·exact g1 h
 ·exact g2 h
 ·exact g3 h
 ·exact g4 h
 ·exact g5 h
theorem ops2_cases (L:List UInt8):((L==[61,61])=true)∨((L==[61,61])=false∧(L==[33,61])=true)∨((L==[61,61])=false∧(L==[33,61])=false∧(L==[61,126])=true)∨((L==[61,61])=false∧(L==[33,61])=false∧(L==[61,126])=false∧(L==[33,126])=true)∨((L==[61,61])=false∧(L==[33,61])=false∧(L==[61,126])=false∧(L==[33,126])=false∧(L==[60,61])=true)∨((L==[61,61])=false∧(L==[33,61])=false∧(L==[61,126])=false∧(L==[33,126])=false∧(L==[60,61])=false∧(L==[62,61])=true)∨((L==[61,61])=false∧(L==[33,61])=false∧(L==[61,126])=false∧(L==[33,126])=false∧(L==[60,61])=false∧(L==[62,61])=false):=by
 cases (L==[61,61])<;>cases (L==[33,61])<;>cases (L==[61,126])<;>cases (L==[33,126])<;>cases (L==[60,61])<;>cases (L==[62,61])<;>simp
theorem ops1_cases (n:Nat):(n=123∨n=125∨n=91∨n=93)∨(n=40∨n=41∨n=44∨n=58∨n=61∨n=60∨n=62∨n=43∨n=45∨n=42∨n=47∨n=37∨n=94∨n=64)∨(((n:Int)==123)=false∧((n:Int)==125)=false∧((n:Int)==91)=false∧((n:Int)==93)=false∧((n:Int)==40)=false∧((n:Int)==41)=false∧((n:Int)==44)=false∧((n:Int)==58)=false∧((n:Int)==61)=false∧((n:Int)==60)=false∧((n:Int)==62)=false∧((n:Int)==43)=false∧((n:Int)==45)=false∧((n:Int)==42)=false∧((n:Int)==47)=false∧((n:Int)==37)=false∧((n:Int)==94)=false∧((n:Int)==64)=false∧n≠123∧n≠125∧n≠91∧n≠93∧n≠40∧n≠41∧n≠44∧n≠58∧n≠61∧n≠60∧n≠62∧n≠43∧n≠45∧n≠42∧n≠47∧n≠37∧n≠94∧n≠64):=by
 by_cases h1:n=123∨n=125∨n=91∨n=93
 ·exact .inl h1
 ·by_cases h2:n=40∨n=41∨n=44∨n=58∨n=61∨n=60∨n=62∨n=43∨n=45∨n=42∨n=47∨n=37∨n=94∨n=64
  ·exact .inr (.inl h2)
  ·refine .inr (.inr ⟨?_,?_,?_,?_,?_,?_,?_,?_,?_,?_,?_,?_,?_,?_,?_,?_,?_,?_,?_,?_,?_,?_,?_,?_,?_,?_,?_,?_,?_,?_,?_,?_,?_,?_,?_,?_⟩)
   all_goals first|omega|(refine beq_eq_false_iff_ne.2 ?_;omega)
theorem lex_operator (w:World) (base p:Nat) (s:ByteArray) (at':Nat) (br sq:Bool) (v:Value) (ts:List Tok) (hs:s.size≤281474976710656) (hat:at'<s.size)
  (hz:ZAt w p s at' br sq v) (hown:w.ownsRow base 81 3 v ts.length (toksCells ts)) (hlen:ts.length≤1099511627776) (hbp:base≤p):
  Calls Tryz.prog 149 #[.pointer (some ⟨p,0,none⟩)] w (TokPost base p s at' br sq ts w (opR (s.data.toList.drop at') br sq)):=by
 have c0:w.cell? ⟨p,0,none⟩=some (.string s):=by rw[hz.cell];rfl
 have c1:w.cell? ⟨p,1,none⟩=some (.int .i64 (at':Int)):=by rw[hz.cell];rfl
 have q1:((at':Int)≤(s.size:Int))=True:=by simp;omega
 obtain⟨t,ht⟩: ∃t,t=s.extract at' s.size:=⟨_,rfl⟩;have htd:t.data.toList=s.data.toList.drop at':=by rw[ht,extract_from]
 have hts:t.size=s.size-at':=by rw[ht];simp
 have ht0:0<t.size:=by omega
 rw[←htd];have HZ:=Lib.hid hz;have HO:=Lib.hid hown;have HD:=Lib.hid htd;have HT:=Lib.hid ht;clear hz hown htd ht;go_enter Tryz.func149,Tryz.ntmps149;go_wp2_with fail;go_quiet (fail);rw[←HT.out];have hz2:ZAt (w.drewN nq) p s at' br sq v:=Blk.drewN HZ.out nq;have ho2:(w.drewN nq).ownsRow base 81 3 v ts.length (toksCells ts):=HO.out;have hb2:Below base w (w.drewN nq):=Go.below_drewN (Below.refl base w) nq;generalize w.drewN nq=w2 at hz2 ho2 hb2 ⊢
 have d2:w2.cell? ⟨p,2,none⟩=some (.bool br):=by rw[hz2.cell];rfl
 have d3:w2.cell? ⟨p,3,none⟩=some (.bool sq):=by rw[hz2.cell];rfl
 have f2:w2.frozen? ⟨p,2,none⟩=false:=hz2.frozen 2;have f3:w2.frozen? ⟨p,3,none⟩=false:=hz2.frozen 3;have hat0:(atB t.data.toList 0).toNat=t[0].toNat:=by rw[atB_lt ht0]
 have HZ2:=Lib.hid hz2;have HO2:=Lib.hid ho2;have HB2:=Lib.hid hb2;have HA:=Lib.hid hat0;clear hz2 ho2 hb2 hat0 c0 c1;obtain⟨L,hL⟩: ∃L,L=t.data.toList.take 2:=⟨_,rfl⟩;have hD:(1<t.size∧op2 t.data.toList=ops2.contains L)∨(¬1<t.size∧op2 t.data.toList=false):=by
  by_cases h1:1<t.size
  ·exact .inl ⟨h1,by rw[op2,len_data,decide_eq_true h1,Bool.true_and,hL]⟩
  ·exact .inr ⟨h1,by rw[op2,len_data,decide_eq_false h1,Bool.false_and]⟩
 have hLs:t.extract 0 2=⟨L.toArray⟩:=by rw[hL,←mk_data (t.extract 0 2),extract_to]
 have HL:=Lib.hid hLs;clear hL hLs;rcases hD with⟨h1,hop2⟩|⟨h1,hop⟩
 ·have HOP2:=Lib.hid hop2;clear hop2;go_upto_region 4 with fail
  rw[HL.out];rcases ops2_cases L with g0|⟨g0,g1⟩|⟨g0,g1,g2⟩|⟨g0,g1,g2,g3⟩|⟨g0,g1,g2,g3,g4⟩|⟨g0,g1,g2,g3,g4,g5⟩|⟨g0,g1,g2,g3,g4,g5⟩
  iterate 6
   ·have hR:opR t.data.toList br sq= .tok 6 2 br sq:=opR_two (by(first|rw[HOP2.out,beq_iff_eq.1 g5]|rw[HOP2.out,beq_iff_eq.1 g4]|rw[HOP2.out,beq_iff_eq.1 g3]|rw[HOP2.out,beq_iff_eq.1 g2]|rw[HOP2.out,beq_iff_eq.1 g1]|rw[HOP2.out,beq_iff_eq.1 g0]);rfl);have HR:=Lib.hid hR;clear hR;go_wp2_with fail;refine(lex_put w2 base p s at' 6 2 _ _ rfl rfl br sq v ts hs (by omega) (by omega) HZ2.out HO2.out hlen hbp).mono ?_;intro e w5 hp;have h0:=hp.1;subst h0;have HQ:=Lib.hid (TokPost.put (br:=br) (sq:=sq) HR.out HB2.out hp);clear hp;go_wp2_with fail;go_ret;exact HQ.out
  have hop:op2 t.data.toList=false:=by
   rw[HOP2.out];exact ops2_no g0 g1 g2 g3 g4 g5
  have HOP:=Lib.hid hop;clear hop;go_upto_region 13 with fail
  rcases ops1_cases t[0].toNat with(hN|hN|hN|hN)|(hN|hN|hN|hN|hN|hN|hN|hN|hN|hN|hN|hN|hN|hN)|⟨e123,e125,e91,e93,e40,e41,e44,e58,e61,e60,e62,e43,e45,e42,e47,e37,e94,e64,n123,n125,n91,n93,n40,n41,n44,n58,n61,n60,n62,n43,n45,n42,n47,n37,n94,n64⟩
  ·have hR:opR t.data.toList br sq= .tok 6 1 true sq:=(opR_one HOP.out (HA.out.trans hN)).trans rfl;have hz4:=Blk.set_ HZ2.out 2 (.bool true);have hz3:ZAt (w2.setCell ⟨p,2,none⟩ (.bool true)) p s at' true sq v:=by simpa [ZAt]using hz4
   have ho3:=own_setBlk (i:=2) HO2.out HZ2.out (by decide) (.bool true);have hb3:=HB2.out.setCell (p:=⟨p,2,none⟩) hbp (.bool true);have HZ3:=Lib.hid hz3;have HO3:=Lib.hid ho3;have HB3:=Lib.hid hb3;clear hz4 hz3 ho3 hb3;have HR:=Lib.hid hR;clear hR;go_wp2_with fail;refine(lex_put _ base p s at' 6 1 _ _ rfl rfl true sq v ts hs (by omega) (by omega) HZ3.out HO3.out hlen hbp).mono ?_;intro e w5 hp;have h0:=hp.1;subst h0;have HQ:=Lib.hid (TokPost.put (br:=br) (sq:=sq) HR.out HB3.out hp);clear hp;go_wp2_with fail;go_ret;exact HQ.out
  ·have hR:opR t.data.toList br sq= .tok 6 1 false sq:=(opR_one HOP.out (HA.out.trans hN)).trans rfl;have hz4:=Blk.set_ HZ2.out 2 (.bool false);have hz3:ZAt (w2.setCell ⟨p,2,none⟩ (.bool false)) p s at' false sq v:=by simpa [ZAt]using hz4
   have ho3:=own_setBlk (i:=2) HO2.out HZ2.out (by decide) (.bool false);have hb3:=HB2.out.setCell (p:=⟨p,2,none⟩) hbp (.bool false);have HZ3:=Lib.hid hz3;have HO3:=Lib.hid ho3;have HB3:=Lib.hid hb3;clear hz4 hz3 ho3 hb3;have HR:=Lib.hid hR;clear hR;go_wp2_with fail;refine(lex_put _ base p s at' 6 1 _ _ rfl rfl false sq v ts hs (by omega) (by omega) HZ3.out HO3.out hlen hbp).mono ?_;intro e w5 hp;have h0:=hp.1;subst h0;have HQ:=Lib.hid (TokPost.put (br:=br) (sq:=sq) HR.out HB3.out hp);clear hp;go_wp2_with fail;go_ret;exact HQ.out
  ·have hR:opR t.data.toList br sq= .tok 6 1 br true:=(opR_one HOP.out (HA.out.trans hN)).trans rfl;have hz4:=Blk.set_ HZ2.out 3 (.bool true);have hz3:ZAt (w2.setCell ⟨p,3,none⟩ (.bool true)) p s at' br true v:=by simpa [ZAt]using hz4
   have ho3:=own_setBlk (i:=3) HO2.out HZ2.out (by decide) (.bool true);have hb3:=HB2.out.setCell (p:=⟨p,3,none⟩) hbp (.bool true);have HZ3:=Lib.hid hz3;have HO3:=Lib.hid ho3;have HB3:=Lib.hid hb3;clear hz4 hz3 ho3 hb3;have HR:=Lib.hid hR;clear hR;go_wp2_with fail;refine(lex_put _ base p s at' 6 1 _ _ rfl rfl br true v ts hs (by omega) (by omega) HZ3.out HO3.out hlen hbp).mono ?_;intro e w5 hp;have h0:=hp.1;subst h0;have HQ:=Lib.hid (TokPost.put (br:=br) (sq:=sq) HR.out HB3.out hp);clear hp;go_wp2_with fail;go_ret;exact HQ.out
  ·have hR:opR t.data.toList br sq= .tok 6 1 br false:=(opR_one HOP.out (HA.out.trans hN)).trans rfl;have hz4:=Blk.set_ HZ2.out 3 (.bool false);have hz3:ZAt (w2.setCell ⟨p,3,none⟩ (.bool false)) p s at' br false v:=by simpa [ZAt]using hz4
   have ho3:=own_setBlk (i:=3) HO2.out HZ2.out (by decide) (.bool false);have hb3:=HB2.out.setCell (p:=⟨p,3,none⟩) hbp (.bool false);have HZ3:=Lib.hid hz3;have HO3:=Lib.hid ho3;have HB3:=Lib.hid hb3;clear hz4 hz3 ho3 hb3;have HR:=Lib.hid hR;clear hR;go_wp2_with fail;refine(lex_put _ base p s at' 6 1 _ _ rfl rfl br false v ts hs (by omega) (by omega) HZ3.out HO3.out hlen hbp).mono ?_;intro e w5 hp;have h0:=hp.1;subst h0;have HQ:=Lib.hid (TokPost.put (br:=br) (sq:=sq) HR.out HB3.out hp);clear hp;go_wp2_with fail;go_ret;exact HQ.out
  iterate 14
   ·have hR:opR t.data.toList br sq= .tok 6 1 br sq:=(opR_one HOP.out (HA.out.trans hN)).trans rfl;have HR:=Lib.hid hR;clear hR;go_wp2_with fail;refine(lex_put w2 base p s at' 6 1 _ _ rfl rfl br sq v ts hs (by omega) (by omega) HZ2.out HO2.out hlen hbp).mono ?_;intro e w5 hp;have h0:=hp.1;subst h0;have HQ:=Lib.hid (TokPost.put (br:=br) (sq:=sq) HR.out HB2.out hp);clear hp;go_wp2_with fail;go_ret;exact HQ.out
  ·have hR:opR t.data.toList br sq= .bad 110:=by
    rw[opR_one HOP.out HA.out,if_neg n123,if_neg n125,if_neg n91,if_neg n93,if_neg];simp[ops1];omega
   have HR:=Lib.hid hR;clear hR n123 n125 n91 n93 n40 n41 n44 n58 n61 n60 n62 n43 n45 n42 n47 n37 n94 n64;go_wp2_with fail;go_ret;rw[HR.out];exact⟨rfl,v,HZ2.out,HO2.out,HB2.out⟩
 ·have HOP:=Lib.hid hop;clear hop;go_upto_region 13 with fail
  rcases ops1_cases t[0].toNat with(hN|hN|hN|hN)|(hN|hN|hN|hN|hN|hN|hN|hN|hN|hN|hN|hN|hN|hN)|⟨e123,e125,e91,e93,e40,e41,e44,e58,e61,e60,e62,e43,e45,e42,e47,e37,e94,e64,n123,n125,n91,n93,n40,n41,n44,n58,n61,n60,n62,n43,n45,n42,n47,n37,n94,n64⟩
  ·have hR:opR t.data.toList br sq= .tok 6 1 true sq:=(opR_one HOP.out (HA.out.trans hN)).trans rfl;have hz4:=Blk.set_ HZ2.out 2 (.bool true);have hz3:ZAt (w2.setCell ⟨p,2,none⟩ (.bool true)) p s at' true sq v:=by simpa [ZAt]using hz4
   have ho3:=own_setBlk (i:=2) HO2.out HZ2.out (by decide) (.bool true);have hb3:=HB2.out.setCell (p:=⟨p,2,none⟩) hbp (.bool true);have HZ3:=Lib.hid hz3;have HO3:=Lib.hid ho3;have HB3:=Lib.hid hb3;clear hz4 hz3 ho3 hb3;have HR:=Lib.hid hR;clear hR;go_wp2_with fail;refine(lex_put _ base p s at' 6 1 _ _ rfl rfl true sq v ts hs (by omega) (by omega) HZ3.out HO3.out hlen hbp).mono ?_;intro e w5 hp;have h0:=hp.1;subst h0;have HQ:=Lib.hid (TokPost.put (br:=br) (sq:=sq) HR.out HB3.out hp);clear hp;go_wp2_with fail;go_ret;exact HQ.out
  ·have hR:opR t.data.toList br sq= .tok 6 1 false sq:=(opR_one HOP.out (HA.out.trans hN)).trans rfl;have hz4:=Blk.set_ HZ2.out 2 (.bool false);have hz3:ZAt (w2.setCell ⟨p,2,none⟩ (.bool false)) p s at' false sq v:=by simpa [ZAt]using hz4
   have ho3:=own_setBlk (i:=2) HO2.out HZ2.out (by decide) (.bool false);have hb3:=HB2.out.setCell (p:=⟨p,2,none⟩) hbp (.bool false);have HZ3:=Lib.hid hz3;have HO3:=Lib.hid ho3;have HB3:=Lib.hid hb3;clear hz4 hz3 ho3 hb3;have HR:=Lib.hid hR;clear hR;go_wp2_with fail;refine(lex_put _ base p s at' 6 1 _ _ rfl rfl false sq v ts hs (by omega) (by omega) HZ3.out HO3.out hlen hbp).mono ?_;intro e w5 hp;have h0:=hp.1;subst h0;have HQ:=Lib.hid (TokPost.put (br:=br) (sq:=sq) HR.out HB3.out hp);clear hp;go_wp2_with fail;go_ret;exact HQ.out
  ·have hR:opR t.data.toList br sq= .tok 6 1 br true:=(opR_one HOP.out (HA.out.trans hN)).trans rfl;have hz4:=Blk.set_ HZ2.out 3 (.bool true);have hz3:ZAt (w2.setCell ⟨p,3,none⟩ (.bool true)) p s at' br true v:=by simpa [ZAt]using hz4
   have ho3:=own_setBlk (i:=3) HO2.out HZ2.out (by decide) (.bool true);have hb3:=HB2.out.setCell (p:=⟨p,3,none⟩) hbp (.bool true);have HZ3:=Lib.hid hz3;have HO3:=Lib.hid ho3;have HB3:=Lib.hid hb3;clear hz4 hz3 ho3 hb3;have HR:=Lib.hid hR;clear hR;go_wp2_with fail;refine(lex_put _ base p s at' 6 1 _ _ rfl rfl br true v ts hs (by omega) (by omega) HZ3.out HO3.out hlen hbp).mono ?_;intro e w5 hp;have h0:=hp.1;subst h0;have HQ:=Lib.hid (TokPost.put (br:=br) (sq:=sq) HR.out HB3.out hp);clear hp;go_wp2_with fail;go_ret;exact HQ.out
  ·have hR:opR t.data.toList br sq= .tok 6 1 br false:=(opR_one HOP.out (HA.out.trans hN)).trans rfl;have hz4:=Blk.set_ HZ2.out 3 (.bool false);have hz3:ZAt (w2.setCell ⟨p,3,none⟩ (.bool false)) p s at' br false v:=by simpa [ZAt]using hz4
   have ho3:=own_setBlk (i:=3) HO2.out HZ2.out (by decide) (.bool false);have hb3:=HB2.out.setCell (p:=⟨p,3,none⟩) hbp (.bool false);have HZ3:=Lib.hid hz3;have HO3:=Lib.hid ho3;have HB3:=Lib.hid hb3;clear hz4 hz3 ho3 hb3;have HR:=Lib.hid hR;clear hR;go_wp2_with fail;refine(lex_put _ base p s at' 6 1 _ _ rfl rfl br false v ts hs (by omega) (by omega) HZ3.out HO3.out hlen hbp).mono ?_;intro e w5 hp;have h0:=hp.1;subst h0;have HQ:=Lib.hid (TokPost.put (br:=br) (sq:=sq) HR.out HB3.out hp);clear hp;go_wp2_with fail;go_ret;exact HQ.out
  iterate 14
   ·have hR:opR t.data.toList br sq= .tok 6 1 br sq:=(opR_one HOP.out (HA.out.trans hN)).trans rfl;have HR:=Lib.hid hR;clear hR;go_wp2_with fail;refine(lex_put w2 base p s at' 6 1 _ _ rfl rfl br sq v ts hs (by omega) (by omega) HZ2.out HO2.out hlen hbp).mono ?_;intro e w5 hp;have h0:=hp.1;subst h0;have HQ:=Lib.hid (TokPost.put (br:=br) (sq:=sq) HR.out HB2.out hp);clear hp;go_wp2_with fail;go_ret;exact HQ.out
  ·have hR:opR t.data.toList br sq= .bad 110:=by
    rw[opR_one HOP.out HA.out,if_neg n123,if_neg n125,if_neg n91,if_neg n93,if_neg];simp[ops1];omega
   have HR:=Lib.hid hR;clear hR n123 n125 n91 n93 n40 n41 n44 n58 n61 n60 n62 n43 n45 n42 n47 n37 n94 n64;go_wp2_with fail;go_ret;rw[HR.out];exact⟨rfl,v,HZ2.out,HO2.out,HB2.out⟩
theorem TokPost.from {base p:Nat} {s:ByteArray} {at':Nat} {br sq:Bool} {ts:List Tok} {w w1 w':World} {r:TokR} {e:Ending} (h:TokPost base p s at' br sq ts w1 r e w') (hb:Below base w w1):TokPost base p s at' br sq ts w r e w':=by
 cases r with
 |bad k=>
  obtain⟨h1,v,h2,h3,h4⟩:=h;exact⟨h1,v,h2,h3,hb.trans h4⟩
 |tok k n b q=>exact PutPost.from h hb
theorem TokPost.ret {base p:Nat} {s:ByteArray} {at':Nat} {br sq:Bool} {ts:List Tok} {w w':World} {r:TokR} {e:Ending} (h:TokPost base p s at' br sq ts w r e w'): ∃k:Nat,e= .returned (.int .i64 (k:Int)):=by
 cases r with
 |bad k=>exact⟨k,h.1⟩
 |tok k n b q=>exact⟨0,h.1⟩
theorem quoteF {c:UInt8} (h1:((c.toNat:Int)==34)=false) (h2:((c.toNat:Int)==39)=false) (h3:((c.toNat:Int)==96)=false): ¬isQuote c=true:=by
 have n1:=litF (n:=34) (by omega) rfl h1;have n2:=litF (n:=39) (by omega) rfl h2;have n3:=litF (n:=96) (by omega) rfl h3;intro h;simp only[isQuote,Bool.or_eq_true,beq_iff_eq]at h;rcases h with(h|h)|h
 ·exact n1 h
 ·exact n2 h
 ·exact n3 h
theorem quoteT {c:UInt8} (h:(c.toNat:Int)=34∨(c.toNat:Int)=39∨(c.toNat:Int)=96):isQuote c=true:=by
 simp only[isQuote,Bool.or_eq_true,beq_iff_eq];rcases h with h|h|h
 ·exact .inl (.inl (u8_lit (n:=34) (by omega) (by omega)))
 ·exact .inl (.inr (u8_lit (n:=39) (by omega) (by omega)))
 ·exact .inr (u8_lit (n:=96) (by omega) (by omega))
theorem lex_token {ok:List UInt8→Prop} {T:Nat→World→Prop} (hT:NumT ok T) (w:World) (base p:Nat) (s:ByteArray) (at':Nat) (br sq:Bool) (v:Value) (ts:List Tok) (hs:s.size≤281474976710) (hat:at'<s.size) (hok:NumOk ok (s.data.toList.drop at')) (hTw:T base w)
  (hz:ZAt w p s at' br sq v) (hown:w.ownsRow base 81 3 v ts.length (toksCells ts)) (hlen:ts.length≤1099511627776) (hbp:base≤p):
  Calls Tryz.prog 92 #[.pointer (some ⟨p,0,none⟩)] w (TokPost base p s at' br sq ts w (tokenR (s.data.toList.drop at') br sq)):=by
 obtain⟨col,hcol⟩: ∃c,c=(!br&& !sq):=⟨_,rfl⟩;have H4:(br=false∧sq=false∧col=true)∨(br=false∧sq=true∧col=false)∨(br=true∧sq=false∧col=false)∨(br=true∧sq=true∧col=false):=by
  rw[hcol];cases br<;>cases sq<;>simp
 have HC:=Lib.hid hcol;clear hcol;have c0:w.cell? ⟨p,0,none⟩=some (.string s):=by rw[hz.cell];rfl
 have c1:w.cell? ⟨p,1,none⟩=some (.int .i64 (at':Int)):=by rw[hz.cell];rfl
 have q1:((at':Int)≤(s.size:Int))=True:=by simp;omega
 obtain⟨t,ht⟩: ∃t,t=s.extract at' s.size:=⟨_,rfl⟩;have htd:t.data.toList=s.data.toList.drop at':=by rw[ht,extract_from]
 have hts:t.size=s.size-at':=by rw[ht];simp
 have ht0:0<t.size:=by omega
 have hlt:=hz.lt;have HZ:=Lib.hid hz;have HO:=Lib.hid hown;have HD:=Lib.hid htd;have HT:=Lib.hid ht;have HW:=Lib.hid hTw;have HOK:=Lib.hid hok;clear hz hown htd ht hTw hok;go_enter Tryz.func92,Tryz.ntmps92;go_wp2_with fail;go_quiet (fail);rw[←HT.out];have hz2:ZAt (w.drewN nq) p s at' br sq v:=Blk.drewN HZ.out nq;have ho2:(w.drewN nq).ownsRow base 81 3 v ts.length (toksCells ts):=HO.out;have hb2:Below base w (w.drewN nq):=Go.below_drewN (Below.refl base w) nq;have ht2:=hT.keep HW.out hb2;generalize w.drewN nq=w2 at hz2 ho2 hb2 ht2 ⊢
 have d0:w2.cell? ⟨p,0,none⟩=some (.string s):=by rw[hz2.cell];rfl
 have d1:w2.cell? ⟨p,1,none⟩=some (.int .i64 (at':Int)):=by rw[hz2.cell];rfl
 have d2:w2.cell? ⟨p,2,none⟩=some (.bool br):=by rw[hz2.cell];rfl
 have d3:w2.cell? ⟨p,3,none⟩=some (.bool sq):=by rw[hz2.cell];rfl
 have hat0:atB t.data.toList 0=t[0]:=atB_lt ht0;have HZ2:=Lib.hid hz2;have HO2:=Lib.hid ho2;have HB2:=Lib.hid hb2;have HA:=Lib.hid hat0;have HT2:=Lib.hid ht2;have hB2:base≤w2.heap.size:=Nat.le_of_lt (Nat.lt_of_le_of_lt hbp hz2.lt);clear hz2 ho2 hb2 hat0 c0 c1 ht2;cases hl:letter t[0]
 ·rcases H4 with⟨hb,hq,rfl⟩|⟨hb,hq,rfl⟩|⟨hb,hq,rfl⟩|⟨hb,hq,rfl⟩
  all_goals
   cases e58:((t[0].toNat:Int)==58)
   ·cases hg:digit t[0]
    ·cases e46:((t[0].toNat:Int)==46)
     ·have hnn: ¬(digit t[0]=true∨(t[0].toNat=46∧1<t.data.toList.length∧digit (atB t.data.toList 1)=true)):=by
       rintro(h|⟨h,_⟩)
       ·rw[hg]at h;simp at h
       ·have:=neT e46;omega
      have HNN:=Lib.hid hnn;clear hnn;by_cases hqt:(t[0].toNat:Int)=34∨(t[0].toNat:Int)=39∨(t[0].toNat:Int)=96
      ·have HQT:=Lib.hid (quoteT hqt);have hqs:((t[0].toNat:Int)==34)=true∨(((t[0].toNat:Int)==34)=false∧((t[0].toNat:Int)==39)=true)∨(((t[0].toNat:Int)==34)=false∧((t[0].toNat:Int)==39)=false∧((t[0].toNat:Int)==96)=true):=by
        rcases hqt with q|q|q<;>rw[q]<;>decide
       clear hqt;rcases hqs with q34|⟨q34,q39⟩|⟨q34,q39,q96⟩
       all_goals
        have hR:tokenR t.data.toList br sq=strR t.data.toList br sq:=by
         rw[tokenR,HA.out,hl,if_neg (by simp),if_neg (by rintro⟨h,h'⟩;first|(have:=neT e58;omega)|(have h2:=HC.out;rw[h']at h2;cases h2)),if_neg HNN.out,if_pos HQT.out]
        have HR:=Lib.hid hR;clear hR;go_wp2_with (first|(go_at_call 141;refine(lex_letter _ _).mono ?_;rintro e w' ⟨rfl,rfl⟩)|(go_at_call 145;refine(lex_digit _ _).mono ?_;rintro e w' ⟨rfl,rfl⟩));go_quiet ((go_at_call 147;exact Calls.quiet_of_same ((utf_literal s at' _ (by omega)).mono fun _ _ ⟨h1,h2⟩=>⟨h1,h2.symm⟩)));have hz3:ZAt (w2.drewN nq) p s at' br sq v:=Blk.drewN HZ2.out nq;have ho3:(w2.drewN nq).ownsRow base 81 3 v ts.length (toksCells ts):=HO2.out;have hb3:Below base w (w2.drewN nq):=Go.below_drewN HB2.out nq;have g0:(w2.drewN nq).cell? ⟨p,0,none⟩=some (.string s):=d0;have g1:(w2.drewN nq).cell? ⟨p,1,none⟩=some (.int .i64 (at':Int)):=d1;clear d0 d1 d2 d3;generalize w2.drewN nq=w3 at hz3 ho3 hb3 g0 g1 ⊢
        have hle:=litEnd_drop s.data.toList at';rw[←HD.out]at hle;have HZ3:=Lib.hid hz3;have HO3:=Lib.hid ho3;have HB3:=Lib.hid hb3;clear hz3 ho3 hb3;cases he:litEnd t.data.toList 0 with
        |none=>
         rw[he]at hle;have hS:strR t.data.toList br sq= .bad 111:=by rw[strR,he]
         have HS:=Lib.hid hS;rw[hle];clear hS hle he;simp only[optN,optE,Option.map_none];go_wp2_with fail;go_ret;subst hb hq;rw[←HD.out,HR.out,HS.out];exact⟨rfl,v,HZ3.out,HO3.out,HB3.out⟩
        |some n=>
         rw[he]at hle;have hn:=litEnd_le he;rw[len_data]at hn;have hxt:(s.extract at' (n+at')).data.toList=t.data.toList.take n:=by
          rw[Lib.extract_data,HD.out,show n+at'-at'=n by omega]
         have hxs:(s.extract at' (n+at')).size≤281474976710:=by simp;omega
         have r1:((at':Int)≤(n:Int)+(at':Int))=True:=by simp;omega
         have r2:((n:Int)+(at':Int)≤(s.size:Int))=True:=by simp;omega
         have r3:(0≤(n:Int)+(at':Int))=True:=by simp;omega
         have r4:((n:Int)+(at':Int)).toNat=n+at':=by omega
         have hp3:p<w3.heap.size:=HZ3.out.lt;have HLE:=Lib.hid he;have HXT:=Lib.hid hxt;rw[hle];clear hle he hxt;simp only[optN,optE,Option.map_some];go_wp2_with fail;go_region_held3 (fun w'=>w'.cell? ⟨p,0,none⟩=some (.string s)∧w'.cell? ⟨p,1,none⟩=some (.int .i64 (at':Int))) (first|go_keep) (first|(go_at_call 148;refine(utf_unquote (s.extract at' (n+at')) _ hxs).mono ?_;rintro e w4 ⟨rfl,hb4⟩;have k0:w4.cell? ⟨p,0,none⟩=some (.string s):=(hb4.cell (p:=⟨p,0,none⟩) hp3).trans g0;have k1:w4.cell? ⟨p,1,none⟩=some (.int .i64 (at':Int)):=(hb4.cell (p:=⟨p,1,none⟩) hp3).trans g1;have HB4:=Lib.hid hb4;clear hb4));have hb4:=((Below.refl w3.heap.size w3).drew).trans HB4.out;have hz4:=HZ3.out.below hb4;have ho4:=own_belowT HO3.out hb4;have hb5:=HB3.out.trans (hb4.mono (Nat.le_of_lt (Nat.lt_of_le_of_lt hbp hp3)));have m1:w4.cell? ⟨p,1,none⟩=some (.int .i64 (at':Int)):=by rw[hz4.cell];rfl
         have hS:strR t.data.toList br sq=if (unquote (t.data.toList.take n)).1=0 then .tok 5 n br sq else .bad 111:=by rw[strR,HLE.out]
         rw[HD.out]at hS;obtain⟨uq,huq⟩: ∃uq,uq=(unquote (List.take n (List.drop at' s.data.toList))).1:=⟨_,rfl⟩;rw[←huq]at hS ⊢
         have HS:=Lib.hid hS;have HZ4:=Lib.hid hz4;have HO4:=Lib.hid ho4;have HB5:=Lib.hid hb5;clear hS huq hz4 ho4 hb5 hb4 g0 g1;cases hu:((uq:Int) != 0)
         ·go_wp2_with fail;refine(lex_put w4 base p s at' 5 n _ _ rfl (by first|rfl|omega) br sq v ts (by omega) (by omega) (by omega) HZ4.out HO4.out hlen hbp).mono ?_;intro e w5 hp;have h0:=hp.1;subst h0;have HQ:=Lib.hid (hp.from HB5.out);clear hp;go_wp2_with fail;go_ret;subst hb hq;rw[←HD.out,HR.out,HD.out,HS.out,if_pos (bneF hu)];exact HQ.out
         ·go_wp2_with fail;go_ret;subst hb hq;rw[←HD.out,HR.out,HD.out,HS.out,if_neg (bneT hu)];exact⟨rfl,v,HZ4.out,HO4.out,HB5.out⟩
      ·have q34:((t[0].toNat:Int)==34)=false:=beq_eq_false_iff_ne.2 (fun e=>hqt (.inl e));have q39:((t[0].toNat:Int)==39)=false:=beq_eq_false_iff_ne.2 (fun e=>hqt (.inr (.inl e)));have q96:((t[0].toNat:Int)==96)=false:=beq_eq_false_iff_ne.2 (fun e=>hqt (.inr (.inr e)));clear hqt;have HQF:=Lib.hid (quoteF q34 q39 q96);have hR:tokenR t.data.toList br sq=opR t.data.toList br sq:=by
        rw[tokenR,HA.out,hl,if_neg (by simp),if_neg (by rintro⟨h,h'⟩;first|(have:=neT e58;omega)|(have h2:=HC.out;rw[h']at h2;cases h2)),if_neg HNN.out,if_neg HQF.out]
       have HR:=Lib.hid hR;clear hR;go_wp2_with (first|(go_at_call 141;refine(lex_letter _ _).mono ?_;rintro e w' ⟨rfl,rfl⟩)|(go_at_call 145;refine(lex_digit _ _).mono ?_;rintro e w' ⟨rfl,rfl⟩));refine(lex_operator w2 base p s at' br sq v ts (by omega) hat HZ2.out HO2.out hlen hbp).mono ?_;intro e w5 hp;obtain⟨k0,h0⟩:=TokPost.ret hp;subst h0;have HQ:=Lib.hid (hp.from HB2.out);clear hp;go_wp2_with fail;go_ret;subst hb hq;rw[←HD.out,HR.out]
       first
        |exact HQ.out
        |(rw[HD.out];exact HQ.out)
     ·by_cases h1:1<t.size
      ·have ha1:atB t.data.toList 1=t[1]:=atB_lt h1;cases hg1:digit t[1]
       ·have hnn: ¬(digit t[0]=true∨(t[0].toNat=46∧1<t.data.toList.length∧digit (atB t.data.toList 1)=true)):=by
         rintro(h|⟨_,_,h⟩)
         ·rw[hg]at h;simp at h
         ·rw[ha1,hg1]at h;simp at h
        have HNN:=Lib.hid hnn;clear hnn ha1;have q34:((t[0].toNat:Int)==34)=false:=by have:=eqT e46;rw[this];rfl
        have q39:((t[0].toNat:Int)==39)=false:=by have:=eqT e46;rw[this];rfl
        have q96:((t[0].toNat:Int)==96)=false:=by have:=eqT e46;rw[this];rfl
        have HQF:=Lib.hid (quoteF q34 q39 q96);have hR:tokenR t.data.toList br sq=opR t.data.toList br sq:=by
         rw[tokenR,HA.out,hl,if_neg (by simp),if_neg (by rintro⟨h,h'⟩;first|(have:=neT e58;omega)|(have h2:=HC.out;rw[h']at h2;cases h2)),if_neg HNN.out,if_neg HQF.out]
        have HR:=Lib.hid hR;clear hR;go_wp2_with (first|(go_at_call 141;refine(lex_letter _ _).mono ?_;rintro e w' ⟨rfl,rfl⟩)|(go_at_call 145;refine(lex_digit _ _).mono ?_;rintro e w' ⟨rfl,rfl⟩));refine(lex_operator w2 base p s at' br sq v ts (by omega) hat HZ2.out HO2.out hlen hbp).mono ?_;intro e w5 hp;obtain⟨k0,h0⟩:=TokPost.ret hp;subst h0;have HQ:=Lib.hid (hp.from HB2.out);clear hp;go_wp2_with fail;go_ret;subst hb hq;rw[←HD.out,HR.out]
        first
         |exact HQ.out
         |(rw[HD.out];exact HQ.out)
       ·have hw:t[0].toNat=46∧1<t.data.toList.length∧digit (atB t.data.toList 1)=true:=⟨by have:=eqT e46;omega,by rw[len_data];exact h1,by rw[ha1];exact hg1⟩;have HNW:=Lib.hid hw;clear hw ha1;have hR:tokenR t.data.toList br sq=numberR t.data.toList br sq:=by
         rw[tokenR,HA.out,hl,if_neg (by simp),if_neg (by rintro⟨h,h'⟩;first|(have:=neT e58;omega)|(have h2:=HC.out;rw[h']at h2;cases h2)),if_pos (.inr HNW.out)]
        have HR:=Lib.hid hR;clear hR;go_wp2_with (first|(go_at_call 141;refine(lex_letter _ _).mono ?_;rintro e w' ⟨rfl,rfl⟩)|(go_at_call 145;refine(lex_digit _ _).mono ?_;rintro e w' ⟨rfl,rfl⟩));refine(lex_number hT w2 base p s at' br sq v ts (by omega) hat (HOK.out (by rw[←HD.out,numHead,HA.out];exact(.inr HNW.out))) HT2.out HZ2.out HO2.out hlen hbp).mono ?_;intro e w5 hp;obtain⟨k0,h0⟩:=TokPost.ret hp;subst h0;have HQ:=Lib.hid (hp.from HB2.out);clear hp;go_wp2_with fail;go_ret;subst hb hq;rw[←HD.out,HR.out]
        first
         |exact HQ.out
         |(rw[HD.out];exact HQ.out)
      ·have hnn: ¬(digit t[0]=true∨(t[0].toNat=46∧1<t.data.toList.length∧digit (atB t.data.toList 1)=true)):=by
        rintro(h|⟨_,h,_⟩)
        ·rw[hg]at h;simp at h
        ·rw[len_data]at h;exact h1 h
       have HNN:=Lib.hid hnn;clear hnn;have q34:((t[0].toNat:Int)==34)=false:=by have:=eqT e46;rw[this];rfl
       have q39:((t[0].toNat:Int)==39)=false:=by have:=eqT e46;rw[this];rfl
       have q96:((t[0].toNat:Int)==96)=false:=by have:=eqT e46;rw[this];rfl
       have HQF:=Lib.hid (quoteF q34 q39 q96);have hR:tokenR t.data.toList br sq=opR t.data.toList br sq:=by
        rw[tokenR,HA.out,hl,if_neg (by simp),if_neg (by rintro⟨h,h'⟩;first|(have:=neT e58;omega)|(have h2:=HC.out;rw[h']at h2;cases h2)),if_neg HNN.out,if_neg HQF.out]
       have HR:=Lib.hid hR;clear hR;go_wp2_with (first|(go_at_call 141;refine(lex_letter _ _).mono ?_;rintro e w' ⟨rfl,rfl⟩)|(go_at_call 145;refine(lex_digit _ _).mono ?_;rintro e w' ⟨rfl,rfl⟩));refine(lex_operator w2 base p s at' br sq v ts (by omega) hat HZ2.out HO2.out hlen hbp).mono ?_;intro e w5 hp;obtain⟨k0,h0⟩:=TokPost.ret hp;subst h0;have HQ:=Lib.hid (hp.from HB2.out);clear hp;go_wp2_with fail;go_ret;subst hb hq;rw[←HD.out,HR.out]
       first
        |exact HQ.out
        |(rw[HD.out];exact HQ.out)
    ·have hR:tokenR t.data.toList br sq=numberR t.data.toList br sq:=by
      rw[tokenR,HA.out,hl,if_neg (by simp),if_neg (by rintro⟨h,h'⟩;first|(have:=neT e58;omega)|(have h2:=HC.out;rw[h']at h2;cases h2)),if_pos (.inl hg)]
     have HR:=Lib.hid hR;clear hR;go_wp2_with (first|(go_at_call 141;refine(lex_letter _ _).mono ?_;rintro e w' ⟨rfl,rfl⟩)|(go_at_call 145;refine(lex_digit _ _).mono ?_;rintro e w' ⟨rfl,rfl⟩));refine(lex_number hT w2 base p s at' br sq v ts (by omega) hat (HOK.out (by rw[←HD.out,numHead,HA.out];exact(.inl hg))) HT2.out HZ2.out HO2.out hlen hbp).mono ?_;intro e w5 hp;obtain⟨k0,h0⟩:=TokPost.ret hp;subst h0;have HQ:=Lib.hid (hp.from HB2.out);clear hp;go_wp2_with fail;go_ret;subst hb hq;rw[←HD.out,HR.out]
     first
      |exact HQ.out
      |(rw[HD.out];exact HQ.out)
   ·first
    |have hg:digit t[0]=false:=by have:=eqT e58;simp[digit];omega
     have e46:((t[0].toNat:Int)==46)=false:=beq_eq_false_iff_ne.2 (by have:=eqT e58;omega);have hnn: ¬(digit t[0]=true∨(t[0].toNat=46∧1<t.data.toList.length∧digit (atB t.data.toList 1)=true)):=by
      rintro(h|⟨h,_⟩)
      ·rw[hg]at h;simp at h
      ·have:=neT e46;omega
     have HNN:=Lib.hid hnn;clear hnn;have q34:((t[0].toNat:Int)==34)=false:=beq_eq_false_iff_ne.2 (by have:=eqT e58;omega);have q39:((t[0].toNat:Int)==39)=false:=beq_eq_false_iff_ne.2 (by have:=eqT e58;omega);have q96:((t[0].toNat:Int)==96)=false:=beq_eq_false_iff_ne.2 (by have:=eqT e58;omega);have HQF:=Lib.hid (quoteF q34 q39 q96);have hR:tokenR t.data.toList br sq=opR t.data.toList br sq:=by
      rw[tokenR,HA.out,hl,if_neg (by simp),if_neg (by rintro⟨h,h'⟩;first|(have:=neT e58;omega)|(have h2:=HC.out;rw[h']at h2;cases h2)),if_neg HNN.out,if_neg HQF.out]
     have HR:=Lib.hid hR;clear hR;go_wp2_with (first|(go_at_call 141;refine(lex_letter _ _).mono ?_;rintro e w' ⟨rfl,rfl⟩)|(go_at_call 145;refine(lex_digit _ _).mono ?_;rintro e w' ⟨rfl,rfl⟩));refine(lex_operator w2 base p s at' br sq v ts (by omega) hat HZ2.out HO2.out hlen hbp).mono ?_;intro e w5 hp;obtain⟨k0,h0⟩:=TokPost.ret hp;subst h0;have HQ:=Lib.hid (hp.from HB2.out);clear hp;go_wp2_with fail;go_ret;subst hb hq;rw[←HD.out,HR.out]
     first
      |exact HQ.out
      |(rw[HD.out];exact HQ.out)
    |have hn1:=spanEnd_ge (nameCh true) t.data.toList 1
     have hn:=spanEnd_le (nameCh true) t.data.toList 1 (by rw[len_data];omega);rw[len_data]at hn;obtain⟨n,hnn⟩: ∃n,n=spanEnd (nameCh true) t.data.toList 1:=⟨_,rfl⟩;rw[←hnn]at hn hn1;have hR:tokenR t.data.toList br sq= .tok 2 n br sq:=by
      rw[tokenR,HA.out,hl,if_neg (by simp),if_pos ⟨by have:=eqT e58;omega,HC.out.symm⟩,hnn]
     have HR:=Lib.hid hR;have HN:=Lib.hid hnn;clear hR hnn;go_wp2_with (first|(go_at_call 141;refine(lex_letter _ _).mono ?_;rintro e w' ⟨rfl,rfl⟩)|(go_at_call 145;refine(lex_digit _ _).mono ?_;rintro e w' ⟨rfl,rfl⟩));refine(lex_nameEnd t 1 true _ (by unfold maxLen;omega) (by decide)).mono ?_;rintro e w3 ⟨rfl,rfl⟩;rw[←HN.out];go_wp2_with fail;refine(lex_put w2 base p s at' 2 n _ _ rfl rfl br sq v ts (by omega) (by omega) (by omega) HZ2.out HO2.out hlen hbp).mono ?_;intro e w5 hp;have h0:=hp.1;subst h0;have HQ:=Lib.hid (hp.from HB2.out);clear hp;go_wp2_with fail;go_ret;subst hb hq;rw[←HD.out,HR.out]
     first
      |exact HQ.out
      |(rw[HD.out];exact HQ.out)
 ·rcases H4 with⟨hb,hq,rfl⟩|⟨hb,hq,rfl⟩|⟨hb,hq,rfl⟩|⟨hb,hq,rfl⟩
  all_goals
   have hn:=spanEnd_le (nameCh (!br&& !sq)) t.data.toList 0 (Nat.zero_le _);rw[len_data]at hn;obtain⟨n,hnn⟩: ∃n,n=spanEnd (nameCh (!br&& !sq)) t.data.toList 0:=⟨_,rfl⟩;rw[←hnn]at hn;have hR:tokenR t.data.toList br sq= .tok (nameTok br (t.data.toList.take n)) n br sq:=by
    rw[tokenR,HA.out,if_pos hl,hnn]
   have HR:=Lib.hid hR;rw[←HC.out]at hnn;have HN:=Lib.hid hnn;clear hR hnn;go_wp2_with (first|(go_at_call 141;refine(lex_letter _ _).mono ?_;rintro e w' ⟨rfl,rfl⟩)|(go_at_call 145;refine(lex_digit _ _).mono ?_;rintro e w' ⟨rfl,rfl⟩));refine(lex_nameEnd t 0 _ _ (by unfold maxLen;omega) (by decide)).mono ?_;rintro e w3 ⟨rfl,rfl⟩;rw[←HN.out];go_wp2_with fail;refine(lex_name w2 base p s at' n _ rfl br sq v ts (by omega) (by omega) HZ2.out HO2.out hlen hbp).mono ?_;intro e w5 hp;have h0:=hp.1;subst h0;have HQ:=Lib.hid (hp.from HB2.out);clear hp;go_wp2_with fail;go_ret;subst hb hq;rw[←HD.out,HR.out]
   first
    |exact HQ.out
    |(rw[HD.out];exact HQ.out)
end Go.Proofs.YtibcjfjacielbaaGreatDoor
