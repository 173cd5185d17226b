import Derived.Shelf.Strings.Builder1
import Derived.Shelf.Small.Strs
import Derived.Shelf.Strings.Search1
import Derived.Shelf.Strings.Search2
import Derived.Shelf.Strings.Search3
import Derived.Test.YtcdoilkjmjbgmaaGreatDoorW05
import Derived.Lib.IndexAny
/- Part of the proof of YtcdoilkjmjbgmaaGreatDoorCardX: Shelf LexD LexE LexF LexN LexI. -/
set_option maxRecDepth 100000
set_option maxHeartbeats 4000000
set_option linter.unusedVariables false
set_option linter.unusedSimpArgs false
namespace Go.Proofs
open Go.Shelf
open Go.Shelf
open Go.Proofs.Tryz
def Tryz.Kd:Go.Shelf.Ren:=⟨fun|137=>133|217=>145|266=>155|n=>n,fun|9=>9|5=>5|3=>3|n=>n,fun|n=>n⟩
theorem Tryz.YL:Go.Proofs.Lays.n137 prog Tryz.Kd:={
 mixed:=by kernel_rfl
 f137:=func133.trans (bT some (by kernel_rfl))
 f217:=func145.trans (bT some (by kernel_rfl))
 f266:=func155.trans (bT some (by kernel_rfl))
 t3:=underlying3
 a3:=Tryz.isAgg3
 z3:=Tryz.sizeOf3
 v3:=Tryz.zeroValue3
 t5:=underlying5
 a5:=Tryz.isAgg5
 z5:=Tryz.sizeOf5
 v5:=Tryz.zeroValue5
 t9:=underlying9
 a9:=Tryz.isAgg9
 z9:=Tryz.sizeOf9
 v9:=Tryz.zeroValue9}
open Go.RowKit in
theorem Tryz.strings_IndexByte (s:ByteArray) (c:Int) (w:World):
  Calls prog 133 #[.string s,.int .u8 c] w fun e w'=>e= .returned (.int .i64 (Lib.indexByte s.data.toList c.toNat.toUInt8))∧w'=w:=Any.strings_IndexByte Tryz.YL s c w
def Tryz.Ke:Go.Shelf.Ren:=⟨fun|144=>156|143=>162|219=>178|217=>145|225=>188|224=>189|267=>190|266=>155|314=>199|n=>n,fun|9=>9|4=>4|3=>3|5=>5|46=>196|146=>254|51=>184|n=>n,fun|1=>1|n=>n⟩
theorem Tryz.YM:Go.Proofs.Lays.n144 prog Tryz.Ke:={
 mixed:=by kernel_rfl
 f143:=func162.trans (bT some (by kernel_rfl))
 f144:=func156.trans (bT some (by kernel_rfl))
 f217:=func145.trans (bT some (by kernel_rfl))
 f219:=func178.trans (bT some (by kernel_rfl))
 f224:=func189.trans (bT some (by kernel_rfl))
 f225:=func188.trans (bT some (by kernel_rfl))
 f266:=func155.trans (bT some (by kernel_rfl))
 f267:=func190.trans (bT some (by kernel_rfl))
 f314:=func199.trans (bT some (by kernel_rfl))
 t3:=underlying3
 a3:=Tryz.isAgg3
 z3:=Tryz.sizeOf3
 v3:=Tryz.zeroValue3
 t4:=underlying4
 a4:=Tryz.isAgg4
 z4:=Tryz.sizeOf4
 v4:=Tryz.zeroValue4
 t5:=underlying5
 a5:=Tryz.isAgg5
 z5:=Tryz.sizeOf5
 v5:=Tryz.zeroValue5
 t9:=underlying9
 a9:=Tryz.isAgg9
 z9:=Tryz.sizeOf9
 v9:=Tryz.zeroValue9
 t46:=underlying196
 a46:=Tryz.isAgg196
 z46:=Tryz.sizeOf196
 v46:=Tryz.zeroValue196
 t51:=underlying184
 a51:=Tryz.isAgg184
 z51:=Tryz.sizeOf184
 v51:=Tryz.zeroValue184
 t146:=underlying254
 a146:=Tryz.isAgg254
 z146:=Tryz.sizeOf254
 v146:=Tryz.zeroValue254
 g1:=by kernel_rfl}
open Go.RowKit Go.Lib in
theorem Tryz.strings_Contains_one (s:ByteArray) (c:UInt8) (w:World):
  Calls prog 156 #[.string s,.string ⟨#[c]⟩] w fun e w'=>e= .returned (.bool (decide (0≤Lib.indexByte s.data.toList c)))∧w'=w:=Any.strings_Contains_one Tryz.YM s c w
end Go.Proofs
namespace Go.Proofs.YtcdoilkjmjbgmaaGreatDoor
open Go.RowKit
open Go.Proofs.Tryz
variable {w w' w1:World} {base k p at' n:Nat} {v:Value} {xs:List Value} {s:ByteArray} {br sq br' sq':Bool} {ts:List Tok} {e:Ending} {T:Nat→World→Prop} {L:List UInt8} {c:UInt8} {a b:Int}
theorem eL (h:w.ownsRow base 139 3 v k xs) (hb:Below w.heap.size w w'):w'.ownsRow base 139 3 v k xs:=
 xR (row:=none) h ⟨hb.os,hb.tape,hb.output,hb.size,fun i hi _=>hb.block i hi⟩ (by simp)
theorem qY.below {w w':World} {p:Nat} {s:ByteArray} {at':Nat} {br sq:Bool} {v:Value} (h:qY w p s at' br sq v) (hb:Below w.heap.size w w'):qY w' p s at' br sq v:=aH.below h hb h.lt
theorem nF.from (h:nF base p s at' br sq ts w1 e w') (hb:Below base w w1):nF base p s at' br sq ts w e w':=by
 obtain⟨h1,v,h2,h3,h4⟩:=h;exact⟨h1,v,h2,h3,hb.trans h4⟩
theorem UX (w:World) (base p:Nat) (s:ByteArray) (at' n:Nat) (y:Int) (hy:y=(n:Int)) (br sq:Bool) (v:Value) (ts:List Tok) (hs:s.size≤281474976710656) (hn:at'+n≤s.size)
  (hz:qY w p s at' br sq v) (aL:w.ownsRow base 139 3 v ts.length (aK ts)) (hlen:ts.length≤1099511627776) (gR:base≤p):
  Calls prog 146 #[.pointer (some ⟨p,0,none⟩),.int .i64 y] w (nF base p s (at'+n) br sq (ts++[⟨bR br ((s.data.toList.drop at').take n),(s.data.toList.drop at').take n,at'⟩]) w):=by
 subst hy;have hw:IntKind.i64.wrap ((at':Int)+(n:Int))=((at'+n:Nat):Int):=by rw[oG];omega
 have q1:(0≤(at':Int)+(n:Int))=True:=by simp;omega
 have q2:((at':Int)+(n:Int)≤(s.size:Int))=True:=by simp;omega
 have q3:((at':Int)≤(at':Int)+(n:Int))=True:=by simp;omega
 have q4:((at':Int)+(n:Int)).toNat=at'+n:=by omega
 have c0:w.cell? ⟨p,0,none⟩=some (.string s):=by rw[hz.cell];rfl
 have c1:w.cell? ⟨p,1,none⟩=some (.int .i64 (at':Int)):=by rw[hz.cell];rfl
 obtain⟨t,ht⟩: ∃t,t=s.extract at' (at'+n):=⟨_,rfl⟩;have qX:t.data.toList=(s.data.toList.drop at').take n:=by rw[ht,Lib.extract_data,show at'+n-at'=n by omega]
 have FG:t.size=n:=by rw[ht];simp;omega
 rw[←qX];have au:=hz.lt;have HZ:=aa hz;have HO:=aa aL;have HD:=aa qX;have HT:=aa ht;clear hz aL qX ht;go_enter func146,ntmps146;go_wp2_with fail;go_quiet (fail);have ej:=HZ.below ((bS (aS w.heap.size w) nq));have AM:=eL HO ((bS (aS w.heap.size w) nq));have aM:Below base w (w.drewN nq):=(bS (aS base w) nq);rw[←HT.out];have d0:(w.drewN nq).cell? ⟨p,0,none⟩=some (.string s):=c0;generalize w.drewN nq=w2 at ej AM aM d0 ⊢
 go_wp2_with fail;refine(EO _ _ (by simp;unfold maxLen;omega)).mono ?_;rintro e w3 ⟨rfl,cr⟩;have hL:(t.extract 0 (min (n:Int) 4).toNat).data.toList.map low=(t.data.toList.take 4).map low:=by
  rw[fz];have:t.data.toList.length=n:=by rw[ab];exact FG
  congr 1
  by_cases h:n≤4
  ·rw[DC (by omega),DC (by omega)]
  ·rw[show (min (n:Int) 4).toNat=4 by omega]
 rw[hL];have nh:=ej.below cr;have sV:=aa (eL AM cr);have HB:=aa (aM.trans (cr.mono (jt (pI gR ej.lt))));have d2:w3.cell? ⟨p,2,none⟩=some (.bool br):=by rw[nh.cell];rfl
 obtain⟨L,hLd⟩: ∃L,L=(t.data.toList.take 4).map low:=⟨_,rfl⟩;rw[←hLd];have xg:=aa nh;have HLd:=aa hLd;clear hL nh ej AM aM cr d0 hLd;go_wp2_with fail;refine(Tryz.strings_Contains_one t 58 _).mono ?_;rintro e w4 ⟨rfl,hw4⟩;subst hw4;rw[←Lib.contains_iff_indexByte];have abq:=fun k hk x (hx:x=((k:Nat):Int))=>eO w4 base p s at' k n x (n:Int) hx rfl br sq v ts hs hn hk xg sV hlen gR
 rw[←HD.out]at abq;have HP:=aa abq;clear abq;cases hc:t.data.toList.contains 58
 ·cases br
  ·cases h1:(L==[105,110,102])
   ·cases h2:(L==[110,97,110])
    ·have hk:bR false t.data.toList=1:=by
      rw[bR,hc,rF,←HLd.out,h1,h2];rfl
     have HK:=aa hk;clear hk;go_wp2_with fail;refine(HP 1 (by omega) _ rfl).mono ?_;intro e w5 hp;have h0:=hp.1;subst h0;have HQ:=aa (hp.from HB);clear hp;go_wp2_with fail;go_ret;rw[HK.out];exact HQ
    ·have hk:bR false t.data.toList=3:=by
      rw[bR,hc,rF,←HLd.out,h1,h2];rfl
     have HK:=aa hk;clear hk;go_wp2_with fail;refine(HP 3 (by omega) _ rfl).mono ?_;intro e w5 hp;have h0:=hp.1;subst h0;have HQ:=aa (hp.from HB);clear hp;go_wp2_with fail;go_ret;rw[HK.out];exact HQ
   ·have hk:bR false t.data.toList=3:=by
     rw[bR,hc,rF,←HLd.out,h1];rfl
    have HK:=aa hk;clear hk;go_wp2_with fail;refine(HP 3 (by omega) _ rfl).mono ?_;intro e w5 hp;have h0:=hp.1;subst h0;have HQ:=aa (hp.from HB);clear hp;go_wp2_with fail;go_ret;rw[HK.out];exact HQ
  ·have hk:bR true t.data.toList=1:=by
    rw[bR,hc];rfl
   have HK:=aa hk;clear hk;go_wp2_with fail;refine(HP 1 (by omega) _ rfl).mono ?_;intro e w5 hp;have h0:=hp.1;subst h0;have HQ:=aa (hp.from HB);clear hp;go_wp2_with fail;go_ret;rw[HK.out];exact HQ
 ·have hk:bR br t.data.toList=2:=by
   rw[bR,hc];rfl
  have HK:=aa hk;clear hk;go_wp2_with fail;refine(HP 2 (by omega) _ rfl).mono ?_;intro e w5 hp;have h0:=hp.1;subst h0;have HQ:=aa (hp.from HB);clear hp;go_wp2_with fail;go_ret;rw[HK.out];exact HQ
def AD (l:List UInt8):Prop:=digit (an l 0)=true∨((an l 0).toNat=46∧1<l.length∧digit (an l 1)=true)
def TF (ok:List UInt8→Prop) (l:List UInt8):Prop:=AD l→ ¬ag l<aW l→ok (l.take (ag l))
structure pT (ok:List UInt8→Prop) (T:Nat→World→Prop):Prop where
 fN: ∀{B w w'},T B w→Below B w w'→T B w'
 mono: ∀{B B' w},T B w→B≤B'→T B' w
 read: ∀(s:ByteArray) (B:Nat) (w:World),ok s.data.toList→T B w→B≤w.heap.size→s.size≤281474976710656→
  Calls prog 160 #[.string s] w fun e w'=>(∃v,e= .returned (.tuple #[v,.int .i64 (bH s.data.toList:Nat)]))∧Below w.heap.size w w'
def cq (base p:Nat) (s:ByteArray) (at':Nat) (br sq:Bool) (ts:List Tok) (w:World):AU→Ending→World→Prop
 | .bad k,e,w'=>e= .returned (.int .i64 (k:Nat))∧ ∃v,qY w' p s at' br sq v∧w'.ownsRow base 139 3 v ts.length (aK ts)∧Below base w w'
 | .tok kind n br' sq',e,w'=>nF base p s (at'+n) br' sq' (ts++[⟨kind,(s.data.toList.drop at').take n,at'⟩]) w e w'
theorem Co {ok:List UInt8→Prop} (hT:pT ok T) (w:World) (base p:Nat) (s:ByteArray) (at':Nat) (br sq:Bool) (v:Value) (ts:List Tok) (hs:s.size≤281474976710656) (cB:at'<s.size) (cC: ¬ag (s.data.toList.drop at')<aW (s.data.toList.drop at')→ok ((s.data.toList.drop at').take (ag (s.data.toList.drop at')))) (kD:T base w)
  (hz:qY w p s at' br sq v) (aL:w.ownsRow base 139 3 v ts.length (aK ts)) (hlen:ts.length≤1099511627776) (gR:base≤p):
  Calls prog 148 #[.pointer (some ⟨p,0,none⟩)] w (cq base p s at' br sq ts w (bF (s.data.toList.drop at') br sq)):=by
 have c0:w.cell? ⟨p,0,none⟩=some (.string s):=by rw[hz.cell];rfl
 have c1:w.cell? ⟨p,1,none⟩=some (.int .i64 (at':Int)):=by rw[hz.cell];rfl
 have q1:((at':Int)≤(s.size:Int))=True:=by simp;omega
 obtain⟨t,ht⟩: ∃t,t=s.extract at' s.size:=⟨_,rfl⟩;have qX:t.data.toList=s.data.toList.drop at':=by rw[ht,fW]
 have FG:t.size=s.size-at':=by rw[ht];simp
 rw[←qX]at cC ⊢
 have FL:=aa cC;clear cC;have au:=hz.lt;have HZ:=aa hz;have HO:=aa aL;have HD:=aa qX;have HT:=aa ht;have HW:=aa kD;clear hz aL qX ht kD;go_enter func148,ntmps148;go_wp2_with fail;go_quiet (fail);rw[←HT.out];have Sd:Below w.heap.size w (w.drewN nq):=bS (aS w.heap.size w) nq;generalize w.drewN nq=w2 at Sd ⊢
 go_wp2_with fail;refine(Cf t _ (by omega)).mono ?_;rintro e w3 ⟨rfl,rfl⟩;go_wp2_with fail;refine(J8 t _ (by omega)).mono ?_;rintro e w3 ⟨rfl,cr⟩;have Ia:=Sd.trans (cr.mono Sd.size);clear cr Sd;have h1:=qv t.data.toList;have h2:=ky t.data.toList;rw[ab]at h1 h2;obtain⟨np,Ib⟩: ∃k,ag t.data.toList=k:=⟨_,rfl⟩;obtain⟨sp,gJ⟩: ∃k,aW t.data.toList=k:=⟨_,rfl⟩;rw[Ib]at h1;rw[gJ]at h2;rw[Ib,gJ];have nh:=HZ.out.below Ia;have sY:=eL HO.out Ia;have afq:=hT.fN HW.out (Ia.mono (jt (pI gR au)));have Si:base≤w3.heap.size:=jt (pI gR nh.lt);have yp:=Ia.mono (jt (pI gR au));have ZR:=aa Ib;have Xp:=aa gJ;have xg:=aa nh;have sV:=aa sY;have fY:=aa yp;have HTW:=aa afq;clear Ib gJ nh sY yp afq Ia c0 c1;have DF: ∀(w':World),bF t.data.toList br sq= .bad 112→Below base w3 w'→Below w3.heap.size w3 w'→cq base p s at' br sq ts w (bF t.data.toList br sq) (.returned (.int .i64 112)) w':=by
  intro w' h aU aM;rw[h];exact⟨rfl,v,xg.out.below aM,eL sV.out aM,fY.out.trans aU⟩
 have vg:=aa DF;clear DF;cases hd:decide (np<sp)
 ·obtain⟨hk,hn,he⟩:=OU ZR.out (by rw[Xp.out];exact tc hd);have HN:=aa hn;have HK:=aa hk;have HE:=aa he;clear hk hn he;have afr:=aa (FL.out (by rw[ZR.out,Xp.out];exact tc hd));by_cases oe:np<t.size
  ·have Ic:=yZ HN.out oe;have aM:((t[np].toNat:Int)==46)=(t[np].toNat==46):=by rw[eE];simp;omega
   cases hl:letter t[np]
   ·cases hg:digit t[np]
    ·cases oy:((t[np].toNat:Int)==46)
     ·have hF:bY t.data.toList=false:=by rw[Ic,hl,hg,←aM,oy];rfl
      clear Ic aM;go_wp2_with (first|(go_at_call 118;refine(bq _ _).mono ?_;rintro e w' ⟨rfl,rfl⟩)|(go_at_call 135;refine(cg _ _).mono ?_;rintro e w' ⟨rfl,rfl⟩));refine(hT.read (t.extract 0 np) base _ (by rw[fz,←ZR.out];exact afr.out) HTW.out Si (by simp;omega)).mono ?_;rintro e w4 ⟨⟨fv,rfl⟩,fa⟩;rw[fz,←HE.out];have ou:=xg.out.below fa;have Du:=eL sV.out fa;have mn:=fa.mono Si;have Ls:=aa ou;have PG:=aa Du;have pB:=aa fa;have pC:=aa mn;clear ou Du fa mn;cases hz:((iX t.data.toList:Int) != 0)
      ·have hR:=mU (br:=br) (sq:=sq) HK.out HN.out hF (AV hz);have HR:=aa hR;clear hR;go_wp2_with fail;refine(eO w4 base p s at' 3 np _ _ rfl rfl br sq v ts hs (by omega) (by omega) Ls.out PG.out hlen gR).mono ?_;intro e w5 hp;have h0:=hp.1;subst h0;have HQ:=aa (hp.from (fY.out.trans pC.out));clear hp;go_wp2_with fail;go_ret;rw[HR.out];exact HQ.out
      ·have hR:=kX (br:=br) (sq:=sq) hF (zX hz);have HR:=aa hR;clear hR;go_wp2_with fail;go_ret;exact vg.out w4 HR.out pC.out pB.out
     ·have hF:bY t.data.toList=true:=by rw[Ic,hl,hg,←aM,oy];rfl
      have HF:=aa hF;clear Ic aM hF;go_wp2_with (first|(go_at_call 118;refine(bq _ _).mono ?_;rintro e w' ⟨rfl,rfl⟩)|(go_at_call 135;refine(cg _ _).mono ?_;rintro e w' ⟨rfl,rfl⟩));go_ret;exact vg.out w3 (fC HF.out) (aS _ _) (aS _ _)
    ·have hF:bY t.data.toList=true:=by rw[Ic,hl,hg];rfl
     have HF:=aa hF;clear Ic aM hF;go_wp2_with (first|(go_at_call 118;refine(bq _ _).mono ?_;rintro e w' ⟨rfl,rfl⟩)|(go_at_call 135;refine(cg _ _).mono ?_;rintro e w' ⟨rfl,rfl⟩));go_ret;exact vg.out w3 (fC HF.out) (aS _ _) (aS _ _)
   ·have hF:bY t.data.toList=true:=by rw[Ic,hl];rfl
    have HF:=aa hF;clear Ic aM hF;go_wp2_with (first|(go_at_call 118;refine(bq _ _).mono ?_;rintro e w' ⟨rfl,rfl⟩)|(go_at_call 135;refine(cg _ _).mono ?_;rintro e w' ⟨rfl,rfl⟩));go_ret;exact vg.out w3 (fC HF.out) (aS _ _) (aS _ _)
  ·have hF:=wP HN.out oe;go_wp2_with (first|(go_at_call 118;refine(bq _ _).mono ?_;rintro e w' ⟨rfl,rfl⟩)|(go_at_call 135;refine(cg _ _).mono ?_;rintro e w' ⟨rfl,rfl⟩));refine(hT.read (t.extract 0 np) base _ (by rw[fz,←ZR.out];exact afr.out) HTW.out Si (by simp;omega)).mono ?_;rintro e w4 ⟨⟨fv,rfl⟩,fa⟩;rw[fz,←HE.out];have ou:=xg.out.below fa;have Du:=eL sV.out fa;have mn:=fa.mono Si;have Ls:=aa ou;have PG:=aa Du;have pB:=aa fa;have pC:=aa mn;clear ou Du fa mn;cases hz:((iX t.data.toList:Int) != 0)
   ·have hR:=mU (br:=br) (sq:=sq) HK.out HN.out hF (AV hz);have HR:=aa hR;clear hR;go_wp2_with fail;refine(eO w4 base p s at' 3 np _ _ rfl rfl br sq v ts hs (by omega) (by omega) Ls.out PG.out hlen gR).mono ?_;intro e w5 hp;have h0:=hp.1;subst h0;have HQ:=aa (hp.from (fY.out.trans pC.out));clear hp;go_wp2_with fail;go_ret;rw[HR.out];exact HQ.out
   ·have hR:=kX (br:=br) (sq:=sq) hF (zX hz);have HR:=aa hR;clear hR;go_wp2_with fail;go_ret;exact vg.out w4 HR.out pC.out pB.out
 ·obtain⟨hk,hn,he⟩:=Jv Xp.out (by rw[ZR.out];exact nY hd);have HN:=aa hn;have HK:=aa hk;have HE:=aa he;clear hk hn he;by_cases oe:sp<t.size
  ·have Ic:=yZ HN.out oe;have aM:((t[sp].toNat:Int)==46)=(t[sp].toNat==46):=by rw[eE];simp;omega
   cases hl:letter t[sp]
   ·cases hg:digit t[sp]
    ·cases oy:((t[sp].toNat:Int)==46)
     ·have hF:bY t.data.toList=false:=by rw[Ic,hl,hg,←aM,oy];rfl
      clear Ic aM;go_wp2_with (first|(go_at_call 118;refine(bq _ _).mono ?_;rintro e w' ⟨rfl,rfl⟩)|(go_at_call 135;refine(cg _ _).mono ?_;rintro e w' ⟨rfl,rfl⟩));refine(Ce (t.extract 0 sp) _).mono ?_;rintro e w4 ⟨rfl,fa⟩;rw[fz,←HE.out];have ou:=xg.out.below fa;have Du:=eL sV.out fa;have mn:=fa.mono Si;have Ls:=aa ou;have PG:=aa Du;have pB:=aa fa;have pC:=aa mn;clear ou Du fa mn;cases hz:((iX t.data.toList:Int) != 0)
      ·have hR:=mU (br:=br) (sq:=sq) HK.out HN.out hF (AV hz);have HR:=aa hR;clear hR;go_wp2_with fail;refine(eO w4 base p s at' 4 sp _ _ rfl rfl br sq v ts hs (by omega) (by omega) Ls.out PG.out hlen gR).mono ?_;intro e w5 hp;have h0:=hp.1;subst h0;have HQ:=aa (hp.from (fY.out.trans pC.out));clear hp;go_wp2_with fail;go_ret;rw[HR.out];exact HQ.out
      ·have hR:=kX (br:=br) (sq:=sq) hF (zX hz);have HR:=aa hR;clear hR;go_wp2_with fail;go_ret;exact vg.out w4 HR.out pC.out pB.out
     ·have hF:bY t.data.toList=true:=by rw[Ic,hl,hg,←aM,oy];rfl
      have HF:=aa hF;clear Ic aM hF;go_wp2_with (first|(go_at_call 118;refine(bq _ _).mono ?_;rintro e w' ⟨rfl,rfl⟩)|(go_at_call 135;refine(cg _ _).mono ?_;rintro e w' ⟨rfl,rfl⟩));go_ret;exact vg.out w3 (fC HF.out) (aS _ _) (aS _ _)
    ·have hF:bY t.data.toList=true:=by rw[Ic,hl,hg];rfl
     have HF:=aa hF;clear Ic aM hF;go_wp2_with (first|(go_at_call 118;refine(bq _ _).mono ?_;rintro e w' ⟨rfl,rfl⟩)|(go_at_call 135;refine(cg _ _).mono ?_;rintro e w' ⟨rfl,rfl⟩));go_ret;exact vg.out w3 (fC HF.out) (aS _ _) (aS _ _)
   ·have hF:bY t.data.toList=true:=by rw[Ic,hl];rfl
    have HF:=aa hF;clear Ic aM hF;go_wp2_with (first|(go_at_call 118;refine(bq _ _).mono ?_;rintro e w' ⟨rfl,rfl⟩)|(go_at_call 135;refine(cg _ _).mono ?_;rintro e w' ⟨rfl,rfl⟩));go_ret;exact vg.out w3 (fC HF.out) (aS _ _) (aS _ _)
  ·have hF:=wP HN.out oe;go_wp2_with (first|(go_at_call 118;refine(bq _ _).mono ?_;rintro e w' ⟨rfl,rfl⟩)|(go_at_call 135;refine(cg _ _).mono ?_;rintro e w' ⟨rfl,rfl⟩));refine(Ce (t.extract 0 sp) _).mono ?_;rintro e w4 ⟨rfl,fa⟩;rw[fz,←HE.out];have ou:=xg.out.below fa;have Du:=eL sV.out fa;have mn:=fa.mono Si;have Ls:=aa ou;have PG:=aa Du;have pB:=aa fa;have pC:=aa mn;clear ou Du fa mn;cases hz:((iX t.data.toList:Int) != 0)
   ·have hR:=mU (br:=br) (sq:=sq) HK.out HN.out hF (AV hz);have HR:=aa hR;clear hR;go_wp2_with fail;refine(eO w4 base p s at' 4 sp _ _ rfl rfl br sq v ts hs (by omega) (by omega) Ls.out PG.out hlen gR).mono ?_;intro e w5 hp;have h0:=hp.1;subst h0;have HQ:=aa (hp.from (fY.out.trans pC.out));clear hp;go_wp2_with fail;go_ret;rw[HR.out];exact HQ.out
   ·have hR:=kX (br:=br) (sq:=sq) hF (zX hz);have HR:=aa hR;clear hR;go_wp2_with fail;go_ret;exact vg.out w4 HR.out pC.out pB.out
theorem cq.put {r:AU} (hr:r= .tok k n br' sq') (hb:Below base w w1)
  (h:nF base p s (at'+n) br' sq' (ts++[⟨k,(s.data.toList.drop at').take n,at'⟩]) w1 e w'):cq base p s at' br sq ts w r e w':=by
 subst hr;exact h.from hb
theorem YN (g0:(L==[61,61])=false) (g1:(L==[33,61])=false) (g2:(L==[61,126])=false) (g3:(L==[33,126])=false) (g4:(L==[60,61])=false) (g5:(L==[62,61])=false):Tf.contains L=false:=by
 simp only[bK]at g0 g1 g2 g3 g4 g5;simp only[Tf,List.contains_eq_mem,decide_eq_false_iff_not,gq,kE,iN];rintro(h|h|h|h|h|h)
 ·exact g0 h
 ·exact g1 h
 ·exact g2 h
 ·exact g3 h
 ·exact g4 h
 ·exact g5 h
theorem MJ (L:List UInt8):((L==[61,61])=true)∨((L==[61,61])=false∧(L==[33,61])=true)∨((L==[61,61])=false∧(L==[33,61])=false∧(L==[61,126])=true)∨((L==[61,61])=false∧(L==[33,61])=false∧(L==[61,126])=false∧(L==[33,126])=true)∨((L==[61,61])=false∧(L==[33,61])=false∧(L==[61,126])=false∧(L==[33,126])=false∧(L==[60,61])=true)∨((L==[61,61])=false∧(L==[33,61])=false∧(L==[61,126])=false∧(L==[33,126])=false∧(L==[60,61])=false∧(L==[62,61])=true)∨((L==[61,61])=false∧(L==[33,61])=false∧(L==[61,126])=false∧(L==[33,126])=false∧(L==[60,61])=false∧(L==[62,61])=false):=by
 cases (L==[61,61])<;>cases (L==[33,61])<;>cases (L==[61,126])<;>cases (L==[33,126])<;>cases (L==[60,61])<;>cases (L==[62,61])<;>simp
theorem Cp (n:Nat):(n=123∨n=125∨n=91∨n=93)∨(n=40∨n=41∨n=44∨n=58∨n=61∨n=60∨n=62∨n=43∨n=45∨n=42∨n=47∨n=37∨n=94∨n=64)∨(((n:Int)==123)=false∧((n:Int)==125)=false∧((n:Int)==91)=false∧((n:Int)==93)=false∧((n:Int)==40)=false∧((n:Int)==41)=false∧((n:Int)==44)=false∧((n:Int)==58)=false∧((n:Int)==61)=false∧((n:Int)==60)=false∧((n:Int)==62)=false∧((n:Int)==43)=false∧((n:Int)==45)=false∧((n:Int)==42)=false∧((n:Int)==47)=false∧((n:Int)==37)=false∧((n:Int)==94)=false∧((n:Int)==64)=false∧n≠123∧n≠125∧n≠91∧n≠93∧n≠40∧n≠41∧n≠44∧n≠58∧n≠61∧n≠60∧n≠62∧n≠43∧n≠45∧n≠42∧n≠47∧n≠37∧n≠94∧n≠64):=by
 by_cases h1:n=123∨n=125∨n=91∨n=93
 ·exact .inl h1
 ·by_cases h2:n=40∨n=41∨n=44∨n=58∨n=61∨n=60∨n=62∨n=43∨n=45∨n=42∨n=47∨n=37∨n=94∨n=64
  ·exact .inr (.inl h2)
  ·refine .inr (.inr ⟨?_,?_,?_,?_,?_,?_,?_,?_,?_,?_,?_,?_,?_,?_,?_,?_,?_,?_,?_,?_,?_,?_,?_,?_,?_,?_,?_,?_,?_,?_,?_,?_,?_,?_,?_,?_⟩)
   all_goals first|omega|(refine bK.2 ?_;omega)
theorem lR (w:World) (base p:Nat) (s:ByteArray) (at':Nat) (br sq:Bool) (v:Value) (ts:List Tok) (hs:s.size≤281474976710656) (cB:at'<s.size)
  (hz:qY w p s at' br sq v) (aL:w.ownsRow base 139 3 v ts.length (aK ts)) (hlen:ts.length≤1099511627776) (gR:base≤p):
  Calls prog 151 #[.pointer (some ⟨p,0,none⟩)] w (cq base p s at' br sq ts w (sn (s.data.toList.drop at') br sq)):=by
 have c0:w.cell? ⟨p,0,none⟩=some (.string s):=by rw[hz.cell];rfl
 have c1:w.cell? ⟨p,1,none⟩=some (.int .i64 (at':Int)):=by rw[hz.cell];rfl
 have q1:((at':Int)≤(s.size:Int))=True:=by simp;omega
 obtain⟨t,ht⟩: ∃t,t=s.extract at' s.size:=⟨_,rfl⟩;have qX:t.data.toList=s.data.toList.drop at':=by rw[ht,fW]
 have FG:t.size=s.size-at':=by rw[ht];simp
 have ht0:0<t.size:=by omega
 rw[←qX];have HZ:=aa hz;have HO:=aa aL;have HD:=aa qX;have HT:=aa ht;clear hz aL qX ht;go_enter func151,ntmps151;go_wp2_with fail;go_quiet (fail);rw[←HT.out];have ej:qY (w.drewN nq) p s at' br sq v:=aH.drewN HZ.out nq;have AM:(w.drewN nq).ownsRow base 139 3 v ts.length (aK ts):=HO.out;have aM:Below base w (w.drewN nq):=bS (aS base w) nq;generalize w.drewN nq=w2 at ej AM aM ⊢
 have d2:w2.cell? ⟨p,2,none⟩=some (.bool br):=by rw[ej.cell];rfl
 have d3:w2.cell? ⟨p,3,none⟩=some (.bool sq):=by rw[ej.cell];rfl
 have f2:w2.frozen? ⟨p,2,none⟩=false:=ej.frozen 2;have f3:w2.frozen? ⟨p,3,none⟩=false:=ej.frozen 3;have xx:(an t.data.toList 0).toNat=t[0].toNat:=by rw[aq ht0]
 have jg:=aa ej;have lD:=aa AM;have bD:=aa aM;have HA:=aa xx;clear ej AM aM xx c0 c1;obtain⟨L,hL⟩: ∃L,L=t.data.toList.take 2:=⟨_,rfl⟩;have hD:(1<t.size∧Hs t.data.toList=Tf.contains L)∨(¬1<t.size∧Hs t.data.toList=false):=by
  by_cases h1:1<t.size
  ·exact .inl ⟨h1,by rw[Hs,ab,dQ h1,mA,hL]⟩
  ·exact .inr ⟨h1,by rw[Hs,ab,gp h1,rr]⟩
 have hLs:t.extract 0 2=⟨L.toArray⟩:=by rw[hL,←mk_data (t.extract 0 2),fz]
 have HL:=aa hLs;clear hL hLs;rcases hD with⟨h1,afs⟩|⟨h1,Dl⟩
 ·have LO:=aa afs;clear afs;go_upto_region 4 with fail
  rw[HL.out];rcases MJ L with g0|⟨g0,g1⟩|⟨g0,g1,g2⟩|⟨g0,g1,g2,g3⟩|⟨g0,g1,g2,g3,g4⟩|⟨g0,g1,g2,g3,g4,g5⟩|⟨g0,g1,g2,g3,g4,g5⟩
  iterate 6
   ·have hR:sn t.data.toList br sq= .tok 6 2 br sq:=YI (by(first|rw[LO.out,cn.1 g5]|rw[LO.out,cn.1 g4]|rw[LO.out,cn.1 g3]|rw[LO.out,cn.1 g2]|rw[LO.out,cn.1 g1]|rw[LO.out,cn.1 g0]);rfl);have HR:=aa hR;clear hR;go_wp2_with fail;refine(eO w2 base p s at' 6 2 _ _ rfl rfl br sq v ts hs (by omega) (by omega) jg.out lD.out hlen gR).mono ?_;intro e w5 hp;have h0:=hp.1;subst h0;have HQ:=aa (cq.put (br:=br) (sq:=sq) HR.out bD.out hp);clear hp;go_wp2_with fail;go_ret;exact HQ.out
  have Dl:Hs t.data.toList=false:=by
   rw[LO.out];exact YN g0 g1 g2 g3 g4 g5
  have PH:=aa Dl;clear Dl;go_upto_region 13 with fail
  rcases Cp t[0].toNat with(hN|hN|hN|hN)|(hN|hN|hN|hN|hN|hN|hN|hN|hN|hN|hN|hN|hN|hN)|⟨akv,akw,e91,e93,e40,e41,e44,tx,e61,e60,e62,e43,e45,e42,e47,e37,e94,e64,n123,n125,n91,n93,n40,n41,n44,n58,n61,n60,n62,n43,n45,n42,n47,n37,n94,n64⟩
  ·have hR:sn t.data.toList br sq= .tok 6 1 true sq:=(iV PH.out (HA.out.trans hN)).trans rfl;have ou:=aH.dw jg.out 2 (.bool true);have nh:qY (w2.setCell ⟨p,2,none⟩ (.bool true)) p s at' true sq v:=by simpa [qY]using ou
   have sY:=aF (i:=2) lD.out jg.out (by decide) (.bool true);have cr:=bD.out.setCell (p:=⟨p,2,none⟩) gR (.bool true);have xg:=aa nh;have sV:=aa sY;have iR:=aa cr;clear ou nh sY cr;have HR:=aa hR;clear hR;go_wp2_with fail;refine(eO _ base p s at' 6 1 _ _ rfl rfl true sq v ts hs (by omega) (by omega) xg.out sV.out hlen gR).mono ?_;intro e w5 hp;have h0:=hp.1;subst h0;have HQ:=aa (cq.put (br:=br) (sq:=sq) HR.out iR.out hp);clear hp;go_wp2_with fail;go_ret;exact HQ.out
  ·have hR:sn t.data.toList br sq= .tok 6 1 false sq:=(iV PH.out (HA.out.trans hN)).trans rfl;have ou:=aH.dw jg.out 2 (.bool false);have nh:qY (w2.setCell ⟨p,2,none⟩ (.bool false)) p s at' false sq v:=by simpa [qY]using ou
   have sY:=aF (i:=2) lD.out jg.out (by decide) (.bool false);have cr:=bD.out.setCell (p:=⟨p,2,none⟩) gR (.bool false);have xg:=aa nh;have sV:=aa sY;have iR:=aa cr;clear ou nh sY cr;have HR:=aa hR;clear hR;go_wp2_with fail;refine(eO _ base p s at' 6 1 _ _ rfl rfl false sq v ts hs (by omega) (by omega) xg.out sV.out hlen gR).mono ?_;intro e w5 hp;have h0:=hp.1;subst h0;have HQ:=aa (cq.put (br:=br) (sq:=sq) HR.out iR.out hp);clear hp;go_wp2_with fail;go_ret;exact HQ.out
  ·have hR:sn t.data.toList br sq= .tok 6 1 br true:=(iV PH.out (HA.out.trans hN)).trans rfl;have ou:=aH.dw jg.out 3 (.bool true);have nh:qY (w2.setCell ⟨p,3,none⟩ (.bool true)) p s at' br true v:=by simpa [qY]using ou
   have sY:=aF (i:=3) lD.out jg.out (by decide) (.bool true);have cr:=bD.out.setCell (p:=⟨p,3,none⟩) gR (.bool true);have xg:=aa nh;have sV:=aa sY;have iR:=aa cr;clear ou nh sY cr;have HR:=aa hR;clear hR;go_wp2_with fail;refine(eO _ base p s at' 6 1 _ _ rfl rfl br true v ts hs (by omega) (by omega) xg.out sV.out hlen gR).mono ?_;intro e w5 hp;have h0:=hp.1;subst h0;have HQ:=aa (cq.put (br:=br) (sq:=sq) HR.out iR.out hp);clear hp;go_wp2_with fail;go_ret;exact HQ.out
  ·have hR:sn t.data.toList br sq= .tok 6 1 br false:=(iV PH.out (HA.out.trans hN)).trans rfl;have ou:=aH.dw jg.out 3 (.bool false);have nh:qY (w2.setCell ⟨p,3,none⟩ (.bool false)) p s at' br false v:=by simpa [qY]using ou
   have sY:=aF (i:=3) lD.out jg.out (by decide) (.bool false);have cr:=bD.out.setCell (p:=⟨p,3,none⟩) gR (.bool false);have xg:=aa nh;have sV:=aa sY;have iR:=aa cr;clear ou nh sY cr;have HR:=aa hR;clear hR;go_wp2_with fail;refine(eO _ base p s at' 6 1 _ _ rfl rfl br false v ts hs (by omega) (by omega) xg.out sV.out hlen gR).mono ?_;intro e w5 hp;have h0:=hp.1;subst h0;have HQ:=aa (cq.put (br:=br) (sq:=sq) HR.out iR.out hp);clear hp;go_wp2_with fail;go_ret;exact HQ.out
  iterate 14
   ·have hR:sn t.data.toList br sq= .tok 6 1 br sq:=(iV PH.out (HA.out.trans hN)).trans rfl;have HR:=aa hR;clear hR;go_wp2_with fail;refine(eO w2 base p s at' 6 1 _ _ rfl rfl br sq v ts hs (by omega) (by omega) jg.out lD.out hlen gR).mono ?_;intro e w5 hp;have h0:=hp.1;subst h0;have HQ:=aa (cq.put (br:=br) (sq:=sq) HR.out bD.out hp);clear hp;go_wp2_with fail;go_ret;exact HQ.out
  ·have hR:sn t.data.toList br sq= .bad 110:=by
    rw[iV PH.out HA.out,af n123,af n125,af n91,af n93,af];simp[LM];omega
   have HR:=aa hR;clear hR n123 n125 n91 n93 n40 n41 n44 n58 n61 n60 n62 n43 n45 n42 n47 n37 n94 n64;go_wp2_with fail;go_ret;rw[HR.out];exact⟨rfl,v,jg.out,lD.out,bD.out⟩
 ·have PH:=aa Dl;clear Dl;go_upto_region 13 with fail
  rcases Cp t[0].toNat with(hN|hN|hN|hN)|(hN|hN|hN|hN|hN|hN|hN|hN|hN|hN|hN|hN|hN|hN)|⟨akv,akw,e91,e93,e40,e41,e44,tx,e61,e60,e62,e43,e45,e42,e47,e37,e94,e64,n123,n125,n91,n93,n40,n41,n44,n58,n61,n60,n62,n43,n45,n42,n47,n37,n94,n64⟩
  ·have hR:sn t.data.toList br sq= .tok 6 1 true sq:=(iV PH.out (HA.out.trans hN)).trans rfl;have ou:=aH.dw jg.out 2 (.bool true);have nh:qY (w2.setCell ⟨p,2,none⟩ (.bool true)) p s at' true sq v:=by simpa [qY]using ou
   have sY:=aF (i:=2) lD.out jg.out (by decide) (.bool true);have cr:=bD.out.setCell (p:=⟨p,2,none⟩) gR (.bool true);have xg:=aa nh;have sV:=aa sY;have iR:=aa cr;clear ou nh sY cr;have HR:=aa hR;clear hR;go_wp2_with fail;refine(eO _ base p s at' 6 1 _ _ rfl rfl true sq v ts hs (by omega) (by omega) xg.out sV.out hlen gR).mono ?_;intro e w5 hp;have h0:=hp.1;subst h0;have HQ:=aa (cq.put (br:=br) (sq:=sq) HR.out iR.out hp);clear hp;go_wp2_with fail;go_ret;exact HQ.out
  ·have hR:sn t.data.toList br sq= .tok 6 1 false sq:=(iV PH.out (HA.out.trans hN)).trans rfl;have ou:=aH.dw jg.out 2 (.bool false);have nh:qY (w2.setCell ⟨p,2,none⟩ (.bool false)) p s at' false sq v:=by simpa [qY]using ou
   have sY:=aF (i:=2) lD.out jg.out (by decide) (.bool false);have cr:=bD.out.setCell (p:=⟨p,2,none⟩) gR (.bool false);have xg:=aa nh;have sV:=aa sY;have iR:=aa cr;clear ou nh sY cr;have HR:=aa hR;clear hR;go_wp2_with fail;refine(eO _ base p s at' 6 1 _ _ rfl rfl false sq v ts hs (by omega) (by omega) xg.out sV.out hlen gR).mono ?_;intro e w5 hp;have h0:=hp.1;subst h0;have HQ:=aa (cq.put (br:=br) (sq:=sq) HR.out iR.out hp);clear hp;go_wp2_with fail;go_ret;exact HQ.out
  ·have hR:sn t.data.toList br sq= .tok 6 1 br true:=(iV PH.out (HA.out.trans hN)).trans rfl;have ou:=aH.dw jg.out 3 (.bool true);have nh:qY (w2.setCell ⟨p,3,none⟩ (.bool true)) p s at' br true v:=by simpa [qY]using ou
   have sY:=aF (i:=3) lD.out jg.out (by decide) (.bool true);have cr:=bD.out.setCell (p:=⟨p,3,none⟩) gR (.bool true);have xg:=aa nh;have sV:=aa sY;have iR:=aa cr;clear ou nh sY cr;have HR:=aa hR;clear hR;go_wp2_with fail;refine(eO _ base p s at' 6 1 _ _ rfl rfl br true v ts hs (by omega) (by omega) xg.out sV.out hlen gR).mono ?_;intro e w5 hp;have h0:=hp.1;subst h0;have HQ:=aa (cq.put (br:=br) (sq:=sq) HR.out iR.out hp);clear hp;go_wp2_with fail;go_ret;exact HQ.out
  ·have hR:sn t.data.toList br sq= .tok 6 1 br false:=(iV PH.out (HA.out.trans hN)).trans rfl;have ou:=aH.dw jg.out 3 (.bool false);have nh:qY (w2.setCell ⟨p,3,none⟩ (.bool false)) p s at' br false v:=by simpa [qY]using ou
   have sY:=aF (i:=3) lD.out jg.out (by decide) (.bool false);have cr:=bD.out.setCell (p:=⟨p,3,none⟩) gR (.bool false);have xg:=aa nh;have sV:=aa sY;have iR:=aa cr;clear ou nh sY cr;have HR:=aa hR;clear hR;go_wp2_with fail;refine(eO _ base p s at' 6 1 _ _ rfl rfl br false v ts hs (by omega) (by omega) xg.out sV.out hlen gR).mono ?_;intro e w5 hp;have h0:=hp.1;subst h0;have HQ:=aa (cq.put (br:=br) (sq:=sq) HR.out iR.out hp);clear hp;go_wp2_with fail;go_ret;exact HQ.out
  iterate 14
   ·have hR:sn t.data.toList br sq= .tok 6 1 br sq:=(iV PH.out (HA.out.trans hN)).trans rfl;have HR:=aa hR;clear hR;go_wp2_with fail;refine(eO w2 base p s at' 6 1 _ _ rfl rfl br sq v ts hs (by omega) (by omega) jg.out lD.out hlen gR).mono ?_;intro e w5 hp;have h0:=hp.1;subst h0;have HQ:=aa (cq.put (br:=br) (sq:=sq) HR.out bD.out hp);clear hp;go_wp2_with fail;go_ret;exact HQ.out
  ·have hR:sn t.data.toList br sq= .bad 110:=by
    rw[iV PH.out HA.out,af n123,af n125,af n91,af n93,af];simp[LM];omega
   have HR:=aa hR;clear hR n123 n125 n91 n93 n40 n41 n44 n58 n61 n60 n62 n43 n45 n42 n47 n37 n94 n64;go_wp2_with fail;go_ret;rw[HR.out];exact⟨rfl,v,jg.out,lD.out,bD.out⟩
theorem cq.from {base p:Nat} {s:ByteArray} {at':Nat} {br sq:Bool} {ts:List Tok} {w w1 w':World} {r:AU} {e:Ending} (h:cq base p s at' br sq ts w1 r e w') (hb:Below base w w1):cq base p s at' br sq ts w r e w':=by
 cases r with
 |bad k=>
  obtain⟨h1,v,h2,h3,h4⟩:=h;exact⟨h1,v,h2,h3,hb.trans h4⟩
 |tok k n b q=>exact nF.from h hb
theorem cq.ret {r:AU} (h:cq base p s at' br sq ts w r e w'): ∃k:Nat,e= .returned (.int .i64 (k:Int)):=by
 cases r with
 |bad k=>exact⟨k,h.1⟩
 |tok k n b q=>exact⟨0,h.1⟩
theorem Gf (h1:((c.toNat:Int)==34)=false) (h2:((c.toNat:Int)==39)=false) (h3:((c.toNat:Int)==96)=false): ¬dB c=true:=by
 have n1:=pO (n:=34) (by omega) rfl h1;have n2:=pO (n:=39) (by omega) rfl h2;have n3:=pO (n:=96) (by omega) rfl h3;intro h;simp only[dB,tD,cn]at h;rcases h with(h|h)|h
 ·exact n1 h
 ·exact n2 h
 ·exact n3 h
theorem acm (h:(c.toNat:Int)=34∨(c.toNat:Int)=39∨(c.toNat:Int)=96):dB c=true:=by
 simp only[dB,tD,cn];rcases h with h|h|h
 ·exact .inl (.inl (cD (n:=34) (by omega) (by omega)))
 ·exact .inl (.inr (cD (n:=39) (by omega) (by omega)))
 ·exact .inr (cD (n:=96) (by omega) (by omega))
theorem QG {ok:List UInt8→Prop} (hT:pT ok T) (w:World) (base p:Nat) (s:ByteArray) (at':Nat) (br sq:Bool) (v:Value) (ts:List Tok) (hs:s.size≤281474976710) (cB:at'<s.size) (cC:TF ok (s.data.toList.drop at')) (kD:T base w)
  (hz:qY w p s at' br sq v) (aL:w.ownsRow base 139 3 v ts.length (aK ts)) (hlen:ts.length≤1099511627776) (gR:base≤p):
  Calls prog 134 #[.pointer (some ⟨p,0,none⟩)] w (cq base p s at' br sq ts w (aX (s.data.toList.drop at') br sq)):=by
 obtain⟨col,F5⟩: ∃c,c=(!br&& !sq):=⟨_,rfl⟩;have H4:(br=false∧sq=false∧col=true)∨(br=false∧sq=true∧col=false)∨(br=true∧sq=false∧col=false)∨(br=true∧sq=true∧col=false):=by
  rw[F5];cases br<;>cases sq<;>simp
 have HC:=aa F5;clear F5;have c0:w.cell? ⟨p,0,none⟩=some (.string s):=by rw[hz.cell];rfl
 have c1:w.cell? ⟨p,1,none⟩=some (.int .i64 (at':Int)):=by rw[hz.cell];rfl
 have q1:((at':Int)≤(s.size:Int))=True:=by simp;omega
 obtain⟨t,ht⟩: ∃t,t=s.extract at' s.size:=⟨_,rfl⟩;have qX:t.data.toList=s.data.toList.drop at':=by rw[ht,fW]
 have FG:t.size=s.size-at':=by rw[ht];simp
 have ht0:0<t.size:=by omega
 have au:=hz.lt;have HZ:=aa hz;have HO:=aa aL;have HD:=aa qX;have HT:=aa ht;have HW:=aa kD;have FL:=aa cC;clear hz aL qX ht kD cC;go_enter func134,ntmps134;go_wp2_with fail;go_quiet (fail);rw[←HT.out];have ej:qY (w.drewN nq) p s at' br sq v:=aH.drewN HZ.out nq;have AM:(w.drewN nq).ownsRow base 139 3 v ts.length (aK ts):=HO.out;have aM:Below base w (w.drewN nq):=bS (aS base w) nq;have SR:=hT.fN HW.out aM;generalize w.drewN nq=w2 at ej AM aM SR ⊢
 have d0:w2.cell? ⟨p,0,none⟩=some (.string s):=by rw[ej.cell];rfl
 have d1:w2.cell? ⟨p,1,none⟩=some (.int .i64 (at':Int)):=by rw[ej.cell];rfl
 have d2:w2.cell? ⟨p,2,none⟩=some (.bool br):=by rw[ej.cell];rfl
 have d3:w2.cell? ⟨p,3,none⟩=some (.bool sq):=by rw[ej.cell];rfl
 have xx:an t.data.toList 0=t[0]:=aq ht0;have jg:=aa ej;have lD:=aa AM;have bD:=aa aM;have HA:=aa xx;have Dv:=aa SR;have Xq:base≤w2.heap.size:=jt (pI gR ej.lt);clear ej AM aM xx c0 c1 SR;cases hl:letter t[0]
 ·rcases H4 with⟨hb,hq,rfl⟩|⟨hb,hq,rfl⟩|⟨hb,hq,rfl⟩|⟨hb,hq,rfl⟩
  all_goals
   cases tx:((t[0].toNat:Int)==58)
   ·cases hg:digit t[0]
    ·cases so:((t[0].toNat:Int)==46)
     ·have qZ: ¬(digit t[0]=true∨(t[0].toNat=46∧1<t.data.toList.length∧digit (an t.data.toList 1)=true)):=by
       rintro(h|⟨h,_⟩)
       ·rw[hg]at h;simp at h
       ·have:=kA so;omega
      have Lt:=aa qZ;clear qZ;by_cases hqt:(t[0].toNat:Int)=34∨(t[0].toNat:Int)=39∨(t[0].toNat:Int)=96
      ·have HQT:=aa (acm hqt);have hqs:((t[0].toNat:Int)==34)=true∨(((t[0].toNat:Int)==34)=false∧((t[0].toNat:Int)==39)=true)∨(((t[0].toNat:Int)==34)=false∧((t[0].toNat:Int)==39)=false∧((t[0].toNat:Int)==96)=true):=by
        rcases hqt with q|q|q<;>rw[q]<;>decide
       clear hqt;rcases hqs with WH|⟨WH,Xr⟩|⟨WH,Xr,ZS⟩
       all_goals
        have hR:aX t.data.toList br sq=tf t.data.toList br sq:=by
         rw[aX,HA.out,hl,af (by simp),af (by rintro⟨h,h'⟩;first|(have:=kA tx;omega)|(have h2:=HC.out;rw[h']at h2;cases h2)),af Lt.out,ar HQT.out]
        have HR:=aa hR;clear hR;go_wp2_with (first|(go_at_call 118;refine(bq _ _).mono ?_;rintro e w' ⟨rfl,rfl⟩)|(go_at_call 135;refine(cg _ _).mono ?_;rintro e w' ⟨rfl,rfl⟩));go_quiet ((go_at_call 149;exact Calls.quiet_of_same ((nM s at' _ (by omega)).mono fun _ _ ⟨h1,h2⟩=>⟨h1,h2.symm⟩)));have nh:qY (w2.drewN nq) p s at' br sq v:=aH.drewN jg.out nq;have sY:(w2.drewN nq).ownsRow base 139 3 v ts.length (aK ts):=lD.out;have cr:Below base w (w2.drewN nq):=bS bD.out nq;have g0:(w2.drewN nq).cell? ⟨p,0,none⟩=some (.string s):=d0;have g1:(w2.drewN nq).cell? ⟨p,1,none⟩=some (.int .i64 (at':Int)):=d1;clear d0 d1 d2 d3;generalize w2.drewN nq=w3 at nh sY cr g0 g1 ⊢
        have hle:=za s.data.toList at';rw[←HD.out]at hle;have xg:=aa nh;have sV:=aa sY;have iR:=aa cr;clear nh sY cr;cases he:bz t.data.toList 0 with
        |none=>
         rw[he]at hle;have hS:tf t.data.toList br sq= .bad 111:=by rw[tf,he]
         have HS:=aa hS;rw[hle];clear hS hle he;simp only[jL,oc,Option.map_none];go_wp2_with fail;go_ret;subst hb hq;rw[←HD.out,HR.out,HS.out];exact⟨rfl,v,xg.out,sV.out,iR.out⟩
        |some n=>
         rw[he]at hle;have hn:=xQ he;rw[ab]at hn;have hxt:(s.extract at' (n+at')).data.toList=t.data.toList.take n:=by
          rw[Lib.extract_data,HD.out,show n+at'-at'=n by omega]
         have Xs:(s.extract at' (n+at')).size≤281474976710:=by simp;omega
         have r1:((at':Int)≤(n:Int)+(at':Int))=True:=by simp;omega
         have r2:((n:Int)+(at':Int)≤(s.size:Int))=True:=by simp;omega
         have r3:(0≤(n:Int)+(at':Int))=True:=by simp;omega
         have r4:((n:Int)+(at':Int)).toNat=n+at':=by omega
         have Xt:p<w3.heap.size:=xg.out.lt;have HLE:=aa he;have HXT:=aa hxt;rw[hle];clear hle he hxt;simp only[jL,oc,Option.map_some];go_wp2_with fail;go_region_held3 (fun w'=>w'.cell? ⟨p,0,none⟩=some (.string s)∧w'.cell? ⟨p,1,none⟩=some (.int .i64 (at':Int))) (first|go_keep) (first|(go_at_call 150;refine(Ka (s.extract at' (n+at')) _ Xs).mono ?_;rintro e w4 ⟨rfl,fa⟩;have k0:w4.cell? ⟨p,0,none⟩=some (.string s):=(fa.cell (p:=⟨p,0,none⟩) Xt).trans g0;have k1:w4.cell? ⟨p,1,none⟩=some (.int .i64 (at':Int)):=(fa.cell (p:=⟨p,1,none⟩) Xt).trans g1;have pB:=aa fa;clear fa));have fa:=((aS w3.heap.size w3).drew).trans pB.out;have ou:=xg.out.below fa;have Du:=eL sV.out fa;have mn:=iR.out.trans (fa.mono (jt (pI gR Xt)));have m1:w4.cell? ⟨p,1,none⟩=some (.int .i64 (at':Int)):=by rw[ou.cell];rfl
         have hS:tf t.data.toList br sq=if (lM (t.data.toList.take n)).1=0 then .tok 5 n br sq else .bad 111:=by rw[tf,HLE.out]
         rw[HD.out]at hS;obtain⟨uq,huq⟩: ∃uq,uq=(lM (List.take n (List.drop at' s.data.toList))).1:=⟨_,rfl⟩;rw[←huq]at hS ⊢
         have HS:=aa hS;have Ls:=aa ou;have PG:=aa Du;have pC:=aa mn;clear hS huq ou Du mn fa g0 g1;cases hu:((uq:Int) != 0)
         ·go_wp2_with fail;refine(eO w4 base p s at' 5 n _ _ rfl (by first|rfl|omega) br sq v ts (by omega) (by omega) (by omega) Ls.out PG.out hlen gR).mono ?_;intro e w5 hp;have h0:=hp.1;subst h0;have HQ:=aa (hp.from pC.out);clear hp;go_wp2_with fail;go_ret;subst hb hq;rw[←HD.out,HR.out,HD.out,HS.out,ar (AV hu)];exact HQ.out
         ·go_wp2_with fail;go_ret;subst hb hq;rw[←HD.out,HR.out,HD.out,HS.out,af (zX hu)];exact⟨rfl,v,Ls.out,PG.out,pC.out⟩
      ·have WH:((t[0].toNat:Int)==34)=false:=bK.2 (fun e=>hqt (.inl e));have Xr:((t[0].toNat:Int)==39)=false:=bK.2 (fun e=>hqt (.inr (.inl e)));have ZS:((t[0].toNat:Int)==96)=false:=bK.2 (fun e=>hqt (.inr (.inr e)));clear hqt;have HQF:=aa (Gf WH Xr ZS);have hR:aX t.data.toList br sq=sn t.data.toList br sq:=by
        rw[aX,HA.out,hl,af (by simp),af (by rintro⟨h,h'⟩;first|(have:=kA tx;omega)|(have h2:=HC.out;rw[h']at h2;cases h2)),af Lt.out,af HQF.out]
       have HR:=aa hR;clear hR;go_wp2_with (first|(go_at_call 118;refine(bq _ _).mono ?_;rintro e w' ⟨rfl,rfl⟩)|(go_at_call 135;refine(cg _ _).mono ?_;rintro e w' ⟨rfl,rfl⟩));refine(lR w2 base p s at' br sq v ts (by omega) cB jg.out lD.out hlen gR).mono ?_;intro e w5 hp;obtain⟨k0,h0⟩:=cq.ret hp;subst h0;have HQ:=aa (hp.from bD.out);clear hp;go_wp2_with fail;go_ret;subst hb hq;rw[←HD.out,HR.out]
       first
        |exact HQ.out
        |(rw[HD.out];exact HQ.out)
     ·by_cases h1:1<t.size
      ·have ha1:an t.data.toList 1=t[1]:=aq h1;cases pD:digit t[1]
       ·have qZ: ¬(digit t[0]=true∨(t[0].toNat=46∧1<t.data.toList.length∧digit (an t.data.toList 1)=true)):=by
         rintro(h|⟨_,_,h⟩)
         ·rw[hg]at h;simp at h
         ·rw[ha1,pD]at h;simp at h
        have Lt:=aa qZ;clear qZ ha1;have WH:((t[0].toNat:Int)==34)=false:=by have:=js so;rw[this];rfl
        have Xr:((t[0].toNat:Int)==39)=false:=by have:=js so;rw[this];rfl
        have ZS:((t[0].toNat:Int)==96)=false:=by have:=js so;rw[this];rfl
        have HQF:=aa (Gf WH Xr ZS);have hR:aX t.data.toList br sq=sn t.data.toList br sq:=by
         rw[aX,HA.out,hl,af (by simp),af (by rintro⟨h,h'⟩;first|(have:=kA tx;omega)|(have h2:=HC.out;rw[h']at h2;cases h2)),af Lt.out,af HQF.out]
        have HR:=aa hR;clear hR;go_wp2_with (first|(go_at_call 118;refine(bq _ _).mono ?_;rintro e w' ⟨rfl,rfl⟩)|(go_at_call 135;refine(cg _ _).mono ?_;rintro e w' ⟨rfl,rfl⟩));refine(lR w2 base p s at' br sq v ts (by omega) cB jg.out lD.out hlen gR).mono ?_;intro e w5 hp;obtain⟨k0,h0⟩:=cq.ret hp;subst h0;have HQ:=aa (hp.from bD.out);clear hp;go_wp2_with fail;go_ret;subst hb hq;rw[←HD.out,HR.out]
        first
         |exact HQ.out
         |(rw[HD.out];exact HQ.out)
       ·have hw:t[0].toNat=46∧1<t.data.toList.length∧digit (an t.data.toList 1)=true:=⟨by have:=js so;omega,by rw[ab];exact h1,by rw[ha1];exact pD⟩;have HNW:=aa hw;clear hw ha1;have hR:aX t.data.toList br sq=bF t.data.toList br sq:=by
         rw[aX,HA.out,hl,af (by simp),af (by rintro⟨h,h'⟩;first|(have:=kA tx;omega)|(have h2:=HC.out;rw[h']at h2;cases h2)),ar (.inr HNW.out)]
        have HR:=aa hR;clear hR;go_wp2_with (first|(go_at_call 118;refine(bq _ _).mono ?_;rintro e w' ⟨rfl,rfl⟩)|(go_at_call 135;refine(cg _ _).mono ?_;rintro e w' ⟨rfl,rfl⟩));refine(Co hT w2 base p s at' br sq v ts (by omega) cB (FL.out (by rw[←HD.out,AD,HA.out];exact(.inr HNW.out))) Dv.out jg.out lD.out hlen gR).mono ?_;intro e w5 hp;obtain⟨k0,h0⟩:=cq.ret hp;subst h0;have HQ:=aa (hp.from bD.out);clear hp;go_wp2_with fail;go_ret;subst hb hq;rw[←HD.out,HR.out]
        first
         |exact HQ.out
         |(rw[HD.out];exact HQ.out)
      ·have qZ: ¬(digit t[0]=true∨(t[0].toNat=46∧1<t.data.toList.length∧digit (an t.data.toList 1)=true)):=by
        rintro(h|⟨_,h,_⟩)
        ·rw[hg]at h;simp at h
        ·rw[ab]at h;exact h1 h
       have Lt:=aa qZ;clear qZ;have WH:((t[0].toNat:Int)==34)=false:=by have:=js so;rw[this];rfl
       have Xr:((t[0].toNat:Int)==39)=false:=by have:=js so;rw[this];rfl
       have ZS:((t[0].toNat:Int)==96)=false:=by have:=js so;rw[this];rfl
       have HQF:=aa (Gf WH Xr ZS);have hR:aX t.data.toList br sq=sn t.data.toList br sq:=by
        rw[aX,HA.out,hl,af (by simp),af (by rintro⟨h,h'⟩;first|(have:=kA tx;omega)|(have h2:=HC.out;rw[h']at h2;cases h2)),af Lt.out,af HQF.out]
       have HR:=aa hR;clear hR;go_wp2_with (first|(go_at_call 118;refine(bq _ _).mono ?_;rintro e w' ⟨rfl,rfl⟩)|(go_at_call 135;refine(cg _ _).mono ?_;rintro e w' ⟨rfl,rfl⟩));refine(lR w2 base p s at' br sq v ts (by omega) cB jg.out lD.out hlen gR).mono ?_;intro e w5 hp;obtain⟨k0,h0⟩:=cq.ret hp;subst h0;have HQ:=aa (hp.from bD.out);clear hp;go_wp2_with fail;go_ret;subst hb hq;rw[←HD.out,HR.out]
       first
        |exact HQ.out
        |(rw[HD.out];exact HQ.out)
    ·have hR:aX t.data.toList br sq=bF t.data.toList br sq:=by
      rw[aX,HA.out,hl,af (by simp),af (by rintro⟨h,h'⟩;first|(have:=kA tx;omega)|(have h2:=HC.out;rw[h']at h2;cases h2)),ar (.inl hg)]
     have HR:=aa hR;clear hR;go_wp2_with (first|(go_at_call 118;refine(bq _ _).mono ?_;rintro e w' ⟨rfl,rfl⟩)|(go_at_call 135;refine(cg _ _).mono ?_;rintro e w' ⟨rfl,rfl⟩));refine(Co hT w2 base p s at' br sq v ts (by omega) cB (FL.out (by rw[←HD.out,AD,HA.out];exact(.inl hg))) Dv.out jg.out lD.out hlen gR).mono ?_;intro e w5 hp;obtain⟨k0,h0⟩:=cq.ret hp;subst h0;have HQ:=aa (hp.from bD.out);clear hp;go_wp2_with fail;go_ret;subst hb hq;rw[←HD.out,HR.out]
     first
      |exact HQ.out
      |(rw[HD.out];exact HQ.out)
   ·first
    |have hg:digit t[0]=false:=by have:=js tx;simp[digit];omega
     have so:((t[0].toNat:Int)==46)=false:=bK.2 (by have:=js tx;omega);have qZ: ¬(digit t[0]=true∨(t[0].toNat=46∧1<t.data.toList.length∧digit (an t.data.toList 1)=true)):=by
      rintro(h|⟨h,_⟩)
      ·rw[hg]at h;simp at h
      ·have:=kA so;omega
     have Lt:=aa qZ;clear qZ;have WH:((t[0].toNat:Int)==34)=false:=bK.2 (by have:=js tx;omega);have Xr:((t[0].toNat:Int)==39)=false:=bK.2 (by have:=js tx;omega);have ZS:((t[0].toNat:Int)==96)=false:=bK.2 (by have:=js tx;omega);have HQF:=aa (Gf WH Xr ZS);have hR:aX t.data.toList br sq=sn t.data.toList br sq:=by
      rw[aX,HA.out,hl,af (by simp),af (by rintro⟨h,h'⟩;first|(have:=kA tx;omega)|(have h2:=HC.out;rw[h']at h2;cases h2)),af Lt.out,af HQF.out]
     have HR:=aa hR;clear hR;go_wp2_with (first|(go_at_call 118;refine(bq _ _).mono ?_;rintro e w' ⟨rfl,rfl⟩)|(go_at_call 135;refine(cg _ _).mono ?_;rintro e w' ⟨rfl,rfl⟩));refine(lR w2 base p s at' br sq v ts (by omega) cB jg.out lD.out hlen gR).mono ?_;intro e w5 hp;obtain⟨k0,h0⟩:=cq.ret hp;subst h0;have HQ:=aa (hp.from bD.out);clear hp;go_wp2_with fail;go_ret;subst hb hq;rw[←HD.out,HR.out]
     first
      |exact HQ.out
      |(rw[HD.out];exact HQ.out)
    |have AK:=aV (bg true) t.data.toList 1
     have hn:=bI (bg true) t.data.toList 1 (by rw[ab];omega);rw[ab]at hn;obtain⟨n,qZ⟩: ∃n,n=ae (bg true) t.data.toList 1:=⟨_,rfl⟩;rw[←qZ]at hn AK;have hR:aX t.data.toList br sq= .tok 2 n br sq:=by
      rw[aX,HA.out,hl,af (by simp),ar ⟨by have:=js tx;omega,HC.out.symm⟩,qZ]
     have HR:=aa hR;have HN:=aa qZ;clear hR qZ;go_wp2_with (first|(go_at_call 118;refine(bq _ _).mono ?_;rintro e w' ⟨rfl,rfl⟩)|(go_at_call 135;refine(cg _ _).mono ?_;rintro e w' ⟨rfl,rfl⟩));refine(rV t 1 true _ (by unfold maxLen;omega) (by decide)).mono ?_;rintro e w3 ⟨rfl,rfl⟩;rw[←HN.out];go_wp2_with fail;refine(eO w2 base p s at' 2 n _ _ rfl rfl br sq v ts (by omega) (by omega) (by omega) jg.out lD.out hlen gR).mono ?_;intro e w5 hp;have h0:=hp.1;subst h0;have HQ:=aa (hp.from bD.out);clear hp;go_wp2_with fail;go_ret;subst hb hq;rw[←HD.out,HR.out]
     first
      |exact HQ.out
      |(rw[HD.out];exact HQ.out)
 ·rcases H4 with⟨hb,hq,rfl⟩|⟨hb,hq,rfl⟩|⟨hb,hq,rfl⟩|⟨hb,hq,rfl⟩
  all_goals
   have hn:=bI (bg (!br&& !sq)) t.data.toList 0 (aT _);rw[ab]at hn;obtain⟨n,qZ⟩: ∃n,n=ae (bg (!br&& !sq)) t.data.toList 0:=⟨_,rfl⟩;rw[←qZ]at hn;have hR:aX t.data.toList br sq= .tok (bR br (t.data.toList.take n)) n br sq:=by
    rw[aX,HA.out,ar hl,qZ]
   have HR:=aa hR;rw[←HC.out]at qZ;have HN:=aa qZ;clear hR qZ;go_wp2_with (first|(go_at_call 118;refine(bq _ _).mono ?_;rintro e w' ⟨rfl,rfl⟩)|(go_at_call 135;refine(cg _ _).mono ?_;rintro e w' ⟨rfl,rfl⟩));refine(rV t 0 _ _ (by unfold maxLen;omega) (by decide)).mono ?_;rintro e w3 ⟨rfl,rfl⟩;rw[←HN.out];go_wp2_with fail;refine(UX w2 base p s at' n _ rfl br sq v ts (by omega) (by omega) jg.out lD.out hlen gR).mono ?_;intro e w5 hp;have h0:=hp.1;subst h0;have HQ:=aa (hp.from bD.out);clear hp;go_wp2_with fail;go_ret;subst hb hq;rw[←HD.out,HR.out]
   first
    |exact HQ.out
    |(rw[HD.out];exact HQ.out)
def rG (w:World) (g o:Nat) (xs:List (Int×ByteArray×Int)):Prop:=
 g<w.heap.size∧ ∀j (h:j<xs.length),w.cell? ⟨g,o+j*3,none⟩=some (.int .i64 xs[j].1)∧w.cell? ⟨g,o+j*3+1,none⟩=some (.string xs[j].2.1)∧w.cell? ⟨g,o+j*3+2,none⟩=some (.int .i64 xs[j].2.2)
theorem vi' {k:IntKind} (h:a=b):Value.int k a=Value.int k b:=by rw[h]
