import Derived.Shelf.Strings.Builder1
import Derived.Shelf.Small.Strs
import Derived.Shelf.Strings.Search1
import Derived.Shelf.Strings.Search2
import Derived.Shelf.Strings.Search3
import Derived.Test.YtibcjfjacielbaaGreatDoorP05
import Derived.Test.YtibcjfjacielbaaGreatDoorP19
import Derived.Lib.IndexAny
/- Part of the proof of YtibcjfjacielbaaGreatDoorCardP: Shelf LexD PlK LexI. -/
set_option maxRecDepth 100000
set_option maxHeartbeats 4000000
set_option linter.unusedVariables false
set_option linter.unusedSimpArgs false
namespace Go.Proofs
open Go.Shelf
open Go.Shelf
def Tryz.lays137_ren:Go.Shelf.Ren:=⟨fun|137=>91|217=>140|266=>198|n=>n,fun|9=>9|5=>5|3=>3|n=>n,fun|n=>n⟩
theorem Tryz.lays137:Go.Proofs.Lays.n137 Tryz.prog Tryz.lays137_ren:={
 mixed:=by kernel_rfl
 f137:=Tryz.func91.trans (congrArg some (by kernel_rfl))
 f217:=Tryz.func140.trans (congrArg some (by kernel_rfl))
 f266:=Tryz.func198.trans (congrArg some (by kernel_rfl))
 t3:=Tryz.underlying3
 a3:=Tryz.isAgg3
 z3:=Tryz.sizeOf3
 v3:=Tryz.zeroValue3
 t5:=Tryz.underlying5
 a5:=Tryz.isAgg5
 z5:=Tryz.sizeOf5
 v5:=Tryz.zeroValue5
 t9:=Tryz.underlying9
 a9:=Tryz.isAgg9
 z9:=Tryz.sizeOf9
 v9:=Tryz.zeroValue9}
open Go.RowKit in
theorem Tryz.strings_IndexByte (s:ByteArray) (c:Int) (w:World):
  Calls Tryz.prog 91 #[.string s,.int .u8 c] w fun e w'=>e= .returned (.int .i64 (Lib.indexByte s.data.toList c.toNat.toUInt8))∧w'=w:=Any.strings_IndexByte Tryz.lays137 s c w
def Tryz.lays144_ren:Go.Shelf.Ren:=⟨fun|144=>200|143=>232|219=>258|217=>140|225=>276|224=>277|267=>278|266=>198|314=>292|n=>n,fun|9=>9|4=>4|3=>3|5=>5|46=>220|146=>325|51=>256|n=>n,fun|1=>2|n=>n⟩
theorem Tryz.lays144:Go.Proofs.Lays.n144 Tryz.prog Tryz.lays144_ren:={
 mixed:=by kernel_rfl
 f143:=Tryz.func232.trans (congrArg some (by kernel_rfl))
 f144:=Tryz.func200.trans (congrArg some (by kernel_rfl))
 f217:=Tryz.func140.trans (congrArg some (by kernel_rfl))
 f219:=Tryz.func258.trans (congrArg some (by kernel_rfl))
 f224:=Tryz.func277.trans (congrArg some (by kernel_rfl))
 f225:=Tryz.func276.trans (congrArg some (by kernel_rfl))
 f266:=Tryz.func198.trans (congrArg some (by kernel_rfl))
 f267:=Tryz.func278.trans (congrArg some (by kernel_rfl))
 f314:=Tryz.func292.trans (congrArg some (by kernel_rfl))
 t3:=Tryz.underlying3
 a3:=Tryz.isAgg3
 z3:=Tryz.sizeOf3
 v3:=Tryz.zeroValue3
 t4:=Tryz.underlying4
 a4:=Tryz.isAgg4
 z4:=Tryz.sizeOf4
 v4:=Tryz.zeroValue4
 t5:=Tryz.underlying5
 a5:=Tryz.isAgg5
 z5:=Tryz.sizeOf5
 v5:=Tryz.zeroValue5
 t9:=Tryz.underlying9
 a9:=Tryz.isAgg9
 z9:=Tryz.sizeOf9
 v9:=Tryz.zeroValue9
 t46:=Tryz.underlying220
 a46:=Tryz.isAgg220
 z46:=Tryz.sizeOf220
 v46:=Tryz.zeroValue220
 t51:=Tryz.underlying256
 a51:=Tryz.isAgg256
 z51:=Tryz.sizeOf256
 v51:=Tryz.zeroValue256
 t146:=Tryz.underlying325
 a146:=Tryz.isAgg325
 z146:=Tryz.sizeOf325
 v146:=Tryz.zeroValue325
 g1:=by kernel_rfl}
open Go.RowKit Go.Lib in
theorem Tryz.strings_Contains_one (s:ByteArray) (c:UInt8) (w:World):
  Calls Tryz.prog 200 #[.string s,.string ⟨#[c]⟩] w fun e w'=>e= .returned (.bool (decide (0≤Lib.indexByte s.data.toList c)))∧w'=w:=Any.strings_Contains_one Tryz.lays144 s c w
end Go.Proofs
set_option linter.unusedVariables false
set_option linter.unusedSimpArgs false
namespace Go.Proofs.YtibcjfjacielbaaGreatDoor
open Go.RowKit
theorem own_belowT {w w':World} {base:Nat} {v:Value} {k:Nat} {xs:List Value} (h:w.ownsRow base 81 3 v k xs) (hb:Below w.heap.size w w'):w'.ownsRow base 81 3 v k xs:=
 own_grown (row:=none) h ⟨hb.os,hb.tape,hb.output,hb.size,fun i hi _=>hb.block i hi⟩ (by simp)
theorem ZAt.below {w w':World} {p:Nat} {s:ByteArray} {at':Nat} {br sq:Bool} {v:Value} (h:ZAt w p s at' br sq v) (hb:Below w.heap.size w w'):ZAt w' p s at' br sq v:=Blk.below h hb h.lt
theorem PutPost.from {base p:Nat} {s:ByteArray} {at':Nat} {br sq:Bool} {ts:List Tok} {w w1 w':World} {e:Ending} (h:PutPost base p s at' br sq ts w1 e w') (hb:Below base w w1):PutPost base p s at' br sq ts w e w':=by
 obtain⟨h1,v,h2,h3,h4⟩:=h;exact⟨h1,v,h2,h3,hb.trans h4⟩
theorem lex_name (w:World) (base p:Nat) (s:ByteArray) (at' n:Nat) (y:Int) (hy:y=(n:Int)) (br sq:Bool) (v:Value) (ts:List Tok) (hs:s.size≤281474976710656) (hn:at'+n≤s.size)
  (hz:ZAt w p s at' br sq v) (hown:w.ownsRow base 81 3 v ts.length (toksCells ts)) (hlen:ts.length≤1099511627776) (hbp:base≤p):
  Calls Tryz.prog 142 #[.pointer (some ⟨p,0,none⟩),.int .i64 y] w (PutPost base p s (at'+n) br sq (ts++[⟨nameTok br ((s.data.toList.drop at').take n),(s.data.toList.drop at').take n,at'⟩]) w):=by
 subst hy;have hw:IntKind.i64.wrap ((at':Int)+(n:Int))=((at'+n:Nat):Int):=by rw[IntKind.wrap_i64];omega
 have q1:(0≤(at':Int)+(n:Int))=True:=by simp;omega
 have q2:((at':Int)+(n:Int)≤(s.size:Int))=True:=by simp;omega
 have q3:((at':Int)≤(at':Int)+(n:Int))=True:=by simp;omega
 have q4:((at':Int)+(n:Int)).toNat=at'+n:=by omega
 have c0:w.cell? ⟨p,0,none⟩=some (.string s):=by rw[hz.cell];rfl
 have c1:w.cell? ⟨p,1,none⟩=some (.int .i64 (at':Int)):=by rw[hz.cell];rfl
 obtain⟨t,ht⟩: ∃t,t=s.extract at' (at'+n):=⟨_,rfl⟩;have htd:t.data.toList=(s.data.toList.drop at').take n:=by rw[ht,Lib.extract_data,show at'+n-at'=n by omega]
 have hts:t.size=n:=by rw[ht];simp;omega
 rw[←htd];have hlt:=hz.lt;have HZ:=Lib.hid hz;have HO:=Lib.hid hown;have HD:=Lib.hid htd;have HT:=Lib.hid ht;clear hz hown htd ht;go_enter Tryz.func142,Tryz.ntmps142;go_wp2_with fail;go_quiet (fail);have hz2:=HZ.out.below ((Go.below_drewN (Below.refl w.heap.size w) nq));have ho2:=own_belowT HO.out ((Go.below_drewN (Below.refl w.heap.size w) nq));have hb2:Below base w (w.drewN nq):=(Go.below_drewN (Below.refl base w) nq);rw[←HT.out];have d0:(w.drewN nq).cell? ⟨p,0,none⟩=some (.string s):=c0;generalize w.drewN nq=w2 at hz2 ho2 hb2 d0 ⊢
 go_wp2_with fail;refine(lex_lower _ _ (by simp;unfold maxLen;omega)).mono ?_;rintro e w3 ⟨rfl,hb3⟩;have hL:(t.extract 0 (min (n:Int) 4).toNat).data.toList.map low=(t.data.toList.take 4).map low:=by
  rw[extract_to];have:t.data.toList.length=n:=by rw[len_data];exact hts
  congr 1
  by_cases h:n≤4
  ·rw[List.take_of_length_le (by omega),List.take_of_length_le (by omega)]
  ·rw[show (min (n:Int) 4).toNat=4 by omega]
 rw[hL];have hz3:=hz2.below hb3;have ho3:=own_belowT ho2 hb3;have hbb:=hb2.trans (hb3.mono (Nat.le_of_lt (Nat.lt_of_le_of_lt hbp hz2.lt)));have d2:w3.cell? ⟨p,2,none⟩=some (.bool br):=by rw[hz3.cell];rfl
 obtain⟨L,hLd⟩: ∃L,L=(t.data.toList.take 4).map low:=⟨_,rfl⟩;rw[←hLd];have HZ3:=Lib.hid hz3;have HO3:=Lib.hid ho3;have HB:=Lib.hid hbb;have HLd:=Lib.hid hLd;clear hL hz3 ho3 hz2 ho2 hb2 hb3 d0 hbb hLd;go_wp2_with fail;refine(Tryz.strings_Contains_one t 58 _).mono ?_;rintro e w4 ⟨rfl,hw4⟩;subst hw4;rw[←Lib.contains_iff_indexByte];have hput:=fun k hk x (hx:x=((k:Nat):Int))=>lex_put w4 base p s at' k n x (n:Int) hx rfl br sq v ts hs hn hk HZ3.out HO3.out hlen hbp
 rw[←HD.out]at hput;have HP:=Lib.hid hput;clear hput;cases hc:t.data.toList.contains 58
 ·cases br
  ·cases h1:(L==[105,110,102])
   ·cases h2:(L==[110,97,110])
    ·have hk:nameTok false t.data.toList=1:=by
      rw[nameTok,hc,infnan,←HLd.out,h1,h2];rfl
     have HK:=Lib.hid hk;clear hk;go_wp2_with fail;refine(HP.out 1 (by omega) _ rfl).mono ?_;intro e w5 hp;have h0:=hp.1;subst h0;have HQ:=Lib.hid (hp.from HB.out);clear hp;go_wp2_with fail;go_ret;rw[HK.out];exact HQ.out
    ·have hk:nameTok false t.data.toList=3:=by
      rw[nameTok,hc,infnan,←HLd.out,h1,h2];rfl
     have HK:=Lib.hid hk;clear hk;go_wp2_with fail;refine(HP.out 3 (by omega) _ rfl).mono ?_;intro e w5 hp;have h0:=hp.1;subst h0;have HQ:=Lib.hid (hp.from HB.out);clear hp;go_wp2_with fail;go_ret;rw[HK.out];exact HQ.out
   ·have hk:nameTok false t.data.toList=3:=by
     rw[nameTok,hc,infnan,←HLd.out,h1];rfl
    have HK:=Lib.hid hk;clear hk;go_wp2_with fail;refine(HP.out 3 (by omega) _ rfl).mono ?_;intro e w5 hp;have h0:=hp.1;subst h0;have HQ:=Lib.hid (hp.from HB.out);clear hp;go_wp2_with fail;go_ret;rw[HK.out];exact HQ.out
  ·have hk:nameTok true t.data.toList=1:=by
    rw[nameTok,hc];rfl
   have HK:=Lib.hid hk;clear hk;go_wp2_with fail;refine(HP.out 1 (by omega) _ rfl).mono ?_;intro e w5 hp;have h0:=hp.1;subst h0;have HQ:=Lib.hid (hp.from HB.out);clear hp;go_wp2_with fail;go_ret;rw[HK.out];exact HQ.out
 ·have hk:nameTok br t.data.toList=2:=by
   rw[nameTok,hc];rfl
  have HK:=Lib.hid hk;clear hk;go_wp2_with fail;refine(HP.out 2 (by omega) _ rfl).mono ?_;intro e w5 hp;have h0:=hp.1;subst h0;have HQ:=Lib.hid (hp.from HB.out);clear hp;go_wp2_with fail;go_ret;rw[HK.out];exact HQ.out
theorem tokenR_err {l:List UInt8} {br sq:Bool} {e:Nat} (h:tokenR l br sq= .bad e):e=110∨e=111∨e=112:=by
 unfold tokenR numberR strR opR at h
 repeat' split at h
 all_goals first
  |(cases h;done)
  |(injection h with h;omega)
def TokRow (w:World) (g o:Nat) (xs:List (Int×ByteArray×Int)):Prop:=
 g<w.heap.size∧ ∀j (h:j<xs.length),w.cell? ⟨g,o+j*3,none⟩=some (.int .i64 xs[j].1)∧w.cell? ⟨g,o+j*3+1,none⟩=some (.string xs[j].2.1)∧w.cell? ⟨g,o+j*3+2,none⟩=some (.int .i64 xs[j].2.2)
theorem vi' {k:IntKind} {a b:Int} (h:a=b):Value.int k a=Value.int k b:=by rw[h]
end Go.Proofs.YtibcjfjacielbaaGreatDoor
