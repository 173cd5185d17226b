import Derived.Shelf.Strings.Builder1
import Derived.Shelf.Small.Strs
import Derived.Shelf.Strings.Search1
import Derived.Shelf.Strings.Search2
import Derived.Shelf.Strings.Search3
import Derived.Test.YtcdoilkjmjbgmaaGreatDoorS05
import Derived.Lib.IndexAny
/- Part of the proof of YtcdoilkjmjbgmaaGreatDoorCardY: Shelf LexD LexE LexF LexI. -/
set_option maxRecDepth 100000
set_option maxHeartbeats 4000000
set_option linter.unusedVariables false
set_option linter.unusedSimpArgs false
namespace Go.Proofs
open Go.Shelf
open Go.Shelf
open Go.Proofs.Tryz
def Tryz.J0:Go.Shelf.Ren:=⟨fun|137=>133|217=>145|266=>155|n=>n,fun|9=>9|5=>5|3=>3|n=>n,fun|n=>n⟩
theorem Tryz.Yy:Go.Proofs.Lays.n137 prog Tryz.J0:={
 mixed:=by kernel_rfl
 f137:=func133.trans (cn some (by kernel_rfl))
 f217:=func145.trans (cn some (by kernel_rfl))
 f266:=func155.trans (cn some (by kernel_rfl))
 t3:=underlying3
 a3:=Tryz.isAgg3
 z3:=Tryz.sizeOf3
 v3:=Tryz.zeroValue3
 t5:=underlying5
 a5:=Tryz.isAgg5
 z5:=Tryz.sizeOf5
 v5:=Tryz.zeroValue5
 t9:=underlying9
 a9:=Tryz.isAgg9
 z9:=Tryz.sizeOf9
 v9:=Tryz.zeroValue9}
open Go.RowKit in
theorem Tryz.strings_IndexByte (s:ByteArray) (c:Int) (w:World):
  Calls prog 133 #[.string s,.int .u8 c] w fun e w'=>e= .returned (.int .i64 (Lib.indexByte s.data.toList c.toNat.toUInt8))∧w'=w:=Any.strings_IndexByte Tryz.Yy s c w
def Tryz.J1:Go.Shelf.Ren:=⟨fun|144=>156|143=>162|219=>178|217=>145|225=>188|224=>189|267=>190|266=>155|314=>199|n=>n,fun|9=>9|4=>4|3=>3|5=>5|46=>196|146=>254|51=>184|n=>n,fun|1=>1|n=>n⟩
theorem Tryz.Yz:Go.Proofs.Lays.n144 prog Tryz.J1:={
 mixed:=by kernel_rfl
 f143:=func162.trans (cn some (by kernel_rfl))
 f144:=func156.trans (cn some (by kernel_rfl))
 f217:=func145.trans (cn some (by kernel_rfl))
 f219:=func178.trans (cn some (by kernel_rfl))
 f224:=func189.trans (cn some (by kernel_rfl))
 f225:=func188.trans (cn some (by kernel_rfl))
 f266:=func155.trans (cn some (by kernel_rfl))
 f267:=func190.trans (cn some (by kernel_rfl))
 f314:=func199.trans (cn some (by kernel_rfl))
 t3:=underlying3
 a3:=Tryz.isAgg3
 z3:=Tryz.sizeOf3
 v3:=Tryz.zeroValue3
 t4:=underlying4
 a4:=Tryz.isAgg4
 z4:=Tryz.sizeOf4
 v4:=Tryz.zeroValue4
 t5:=underlying5
 a5:=Tryz.isAgg5
 z5:=Tryz.sizeOf5
 v5:=Tryz.zeroValue5
 t9:=underlying9
 a9:=Tryz.isAgg9
 z9:=Tryz.sizeOf9
 v9:=Tryz.zeroValue9
 t46:=underlying196
 a46:=Tryz.isAgg196
 z46:=Tryz.sizeOf196
 v46:=Tryz.zeroValue196
 t51:=underlying184
 a51:=Tryz.isAgg184
 z51:=Tryz.sizeOf184
 v51:=Tryz.zeroValue184
 t146:=underlying254
 a146:=Tryz.isAgg254
 z146:=Tryz.sizeOf254
 v146:=Tryz.zeroValue254
 g1:=by kernel_rfl}
open Go.RowKit Go.Lib in
theorem Tryz.strings_Contains_one (s:ByteArray) (c:UInt8) (w:World):
  Calls prog 156 #[.string s,.string ⟨#[c]⟩] w fun e w'=>e= .returned (.bool (decide (0≤Lib.indexByte s.data.toList c)))∧w'=w:=Any.strings_Contains_one Tryz.Yz s c w
end Go.Proofs
namespace Go.Proofs.YtcdoilkjmjbgmaaGreatDoor
open Go.RowKit
open Go.Proofs.Tryz
variable {w w' w1:World} {base k p at' n:Nat} {v:Value} {xs:List Value} {s:ByteArray} {br sq br' sq':Bool} {ts:List Tok} {e:Ending} {T:Nat→World→Prop} {L:List UInt8} {a b:Int}
theorem eQ (h:w.ownsRow base 139 3 v k xs) (hb:Below w.heap.size w w'):w'.ownsRow base 139 3 v k xs:=
 Qt (row:=none) h ⟨hb.os,hb.tape,hb.output,hb.size,fun i hi _=>hb.block i hi⟩ (by simp)
theorem qH.below {w w':World} {p:Nat} {s:ByteArray} {at':Nat} {br sq:Bool} {v:Value} (h:qH w p s at' br sq v) (hb:Below w.heap.size w w'):qH w' p s at' br sq v:=aM.below h hb h.lt
theorem nu.from (h:nu base p s at' br sq ts w1 e w') (hb:Below base w w1):nu base p s at' br sq ts w e w':=by
 obtain⟨h1,v,h2,h3,h4⟩:=h;exact⟨h1,v,h2,h3,hb.trans h4⟩
theorem UO (w:World) (base p:Nat) (s:ByteArray) (at' n:Nat) (y:Int) (hy:y=(n:Int)) (br sq:Bool) (v:Value) (ts:List Tok) (hs:s.size≤281474976710656) (hn:at'+n≤s.size)
  (hz:qH w p s at' br sq v) (aP:w.ownsRow base 139 3 v ts.length (aO ts)) (hlen:ts.length≤1099511627776) (gN:base≤p):
  Calls prog 146 #[.pointer (some ⟨p,0,none⟩),.int .i64 y] w (nu base p s (at'+n) br sq (ts++[⟨bV br ((s.data.toList.drop at').take n),(s.data.toList.drop at').take n,at'⟩]) w):=by
 subst hy;have hw:IntKind.i64.wrap ((at':Int)+(n:Int))=((at'+n:Nat):Int):=by rw[ou];omega
 have q1:(0≤(at':Int)+(n:Int))=True:=by simp;omega
 have q2:((at':Int)+(n:Int)≤(s.size:Int))=True:=by simp;omega
 have q3:((at':Int)≤(at':Int)+(n:Int))=True:=by simp;omega
 have q4:((at':Int)+(n:Int)).toNat=at'+n:=by omega
 have c0:w.cell? ⟨p,0,none⟩=some (.string s):=by rw[hz.cell];rfl
 have c1:w.cell? ⟨p,1,none⟩=some (.int .i64 (at':Int)):=by rw[hz.cell];rfl
 obtain⟨t,ht⟩: ∃t,t=s.extract at' (at'+n):=⟨_,rfl⟩;have qG:t.data.toList=(s.data.toList.drop at').take n:=by rw[ht,Lib.extract_data,show at'+n-at'=n by omega]
 have KV:t.size=n:=by rw[ht];simp;omega
 rw[←qG];have aA:=hz.lt;have HZ:=ae hz;have HO:=ae aP;have HD:=ae qG;have HT:=ae ht;clear hz aP qG ht;go_enter func146,ntmps146;go_wp2_with fail;go_quiet (fail);have ej:=HZ.below ((bZ (aU w.heap.size w) nq));have D5:=eQ HO ((bZ (aU w.heap.size w) nq));have aQ:Below base w (w.drewN nq):=(bZ (aU base w) nq);rw[←HT.out];have d0:(w.drewN nq).cell? ⟨p,0,none⟩=some (.string s):=c0;generalize w.drewN nq=w2 at ej D5 aQ d0 ⊢
 go_wp2_with fail;refine(Ez _ _ (by simp;unfold maxLen;omega)).mono ?_;rintro e w3 ⟨rfl,cu⟩;have hL:(t.extract 0 (min (n:Int) 4).toNat).data.toList.map low=(t.data.toList.take 4).map low:=by
  rw[fB];have:t.data.toList.length=n:=by rw[af];exact KV
  congr 1
  by_cases h:n≤4
  ·rw[Dq (by omega),Dq (by omega)]
  ·rw[show (min (n:Int) 4).toNat=4 by omega]
 rw[hL];have mh:=ej.below cu;have qL:=ae (eQ D5 cu);have HB:=ae (aQ.trans (cu.mono (jk (o7 gN ej.lt))));have d2:w3.cell? ⟨p,2,none⟩=some (.bool br):=by rw[mh.cell];rfl
 obtain⟨L,hLd⟩: ∃L,L=(t.data.toList.take 4).map low:=⟨_,rfl⟩;rw[←hLd];have sQ:=ae mh;have HLd:=ae hLd;clear hL mh ej D5 aQ cu d0 hLd;go_wp2_with fail;refine(Tryz.strings_Contains_one t 58 _).mono ?_;rintro e w4 ⟨rfl,hw4⟩;subst hw4;rw[←Lib.contains_iff_indexByte];have ab5:=fun k hk x (hx:x=((k:Nat):Int))=>eR w4 base p s at' k n x (n:Int) hx rfl br sq v ts hs hn hk sQ qL hlen gN
 rw[←HD.out]at ab5;have HP:=ae ab5;clear ab5;cases hc:t.data.toList.contains 58
 ·cases br
  ·cases h1:(L==[105,110,102])
   ·cases h2:(L==[110,97,110])
    ·have hk:bV false t.data.toList=1:=by
      rw[bV,hc,rp,←HLd.out,h1,h2];rfl
     have HK:=ae hk;clear hk;go_wp2_with fail;refine(HP 1 (by omega) _ rfl).mono ?_;intro e w5 hp;have h0:=hp.1;subst h0;have HQ:=ae (hp.from HB);clear hp;go_wp2_with fail;go_ret;rw[HK.out];exact HQ
    ·have hk:bV false t.data.toList=3:=by
      rw[bV,hc,rp,←HLd.out,h1,h2];rfl
     have HK:=ae hk;clear hk;go_wp2_with fail;refine(HP 3 (by omega) _ rfl).mono ?_;intro e w5 hp;have h0:=hp.1;subst h0;have HQ:=ae (hp.from HB);clear hp;go_wp2_with fail;go_ret;rw[HK.out];exact HQ
   ·have hk:bV false t.data.toList=3:=by
     rw[bV,hc,rp,←HLd.out,h1];rfl
    have HK:=ae hk;clear hk;go_wp2_with fail;refine(HP 3 (by omega) _ rfl).mono ?_;intro e w5 hp;have h0:=hp.1;subst h0;have HQ:=ae (hp.from HB);clear hp;go_wp2_with fail;go_ret;rw[HK.out];exact HQ
  ·have hk:bV true t.data.toList=1:=by
    rw[bV,hc];rfl
   have HK:=ae hk;clear hk;go_wp2_with fail;refine(HP 1 (by omega) _ rfl).mono ?_;intro e w5 hp;have h0:=hp.1;subst h0;have HQ:=ae (hp.from HB);clear hp;go_wp2_with fail;go_ret;rw[HK.out];exact HQ
 ·have hk:bV br t.data.toList=2:=by
   rw[bV,hc];rfl
  have HK:=ae hk;clear hk;go_wp2_with fail;refine(HP 2 (by omega) _ rfl).mono ?_;intro e w5 hp;have h0:=hp.1;subst h0;have HQ:=ae (hp.from HB);clear hp;go_wp2_with fail;go_ret;rw[HK.out];exact HQ
def Av (l:List UInt8):Prop:=digit (au l 0)=true∨((au l 0).toNat=46∧1<l.length∧digit (au l 1)=true)
def Tn (ok:List UInt8→Prop) (l:List UInt8):Prop:=Av l→ ¬an l<aX l→ok (l.take (an l))
structure pv (ok:List UInt8→Prop) (T:Nat→World→Prop):Prop where
 fQ: ∀{B w w'},T B w→Below B w w'→T B w'
 mono: ∀{B B' w},T B w→B≤B'→T B' w
 read: ∀(s:ByteArray) (B:Nat) (w:World),ok s.data.toList→T B w→B≤w.heap.size→s.size≤281474976710656→
  Calls prog 160 #[.string s] w fun e w'=>(∃v,e= .returned (.tuple #[v,.int .i64 (bI s.data.toList:Nat)]))∧Below w.heap.size w w'
def cA (base p:Nat) (s:ByteArray) (at':Nat) (br sq:Bool) (ts:List Tok) (w:World):AO→Ending→World→Prop
 | .bad k,e,w'=>e= .returned (.int .i64 (k:Nat))∧ ∃v,qH w' p s at' br sq v∧w'.ownsRow base 139 3 v ts.length (aO ts)∧Below base w w'
 | .tok kind n br' sq',e,w'=>nu base p s (at'+n) br' sq' (ts++[⟨kind,(s.data.toList.drop at').take n,at'⟩]) w e w'
theorem Cl {ok:List UInt8→Prop} (hT:pv ok T) (w:World) (base p:Nat) (s:ByteArray) (at':Nat) (br sq:Bool) (v:Value) (ts:List Tok) (hs:s.size≤281474976710656) (cI:at'<s.size) (cH: ¬an (s.data.toList.drop at')<aX (s.data.toList.drop at')→ok ((s.data.toList.drop at').take (an (s.data.toList.drop at')))) (kp:T base w)
  (hz:qH w p s at' br sq v) (aP:w.ownsRow base 139 3 v ts.length (aO ts)) (hlen:ts.length≤1099511627776) (gN:base≤p):
  Calls prog 148 #[.pointer (some ⟨p,0,none⟩)] w (cA base p s at' br sq ts w (bG (s.data.toList.drop at') br sq)):=by
 have c0:w.cell? ⟨p,0,none⟩=some (.string s):=by rw[hz.cell];rfl
 have c1:w.cell? ⟨p,1,none⟩=some (.int .i64 (at':Int)):=by rw[hz.cell];rfl
 have q1:((at':Int)≤(s.size:Int))=True:=by simp;omega
 obtain⟨t,ht⟩: ∃t,t=s.extract at' s.size:=⟨_,rfl⟩;have qG:t.data.toList=s.data.toList.drop at':=by rw[ht,fX]
 have KV:t.size=s.size-at':=by rw[ht];simp
 rw[←qG]at cH ⊢
 have FD:=ae cH;clear cH;have aA:=hz.lt;have HZ:=ae hz;have HO:=ae aP;have HD:=ae qG;have HT:=ae ht;have HW:=ae kp;clear hz aP qG ht kp;go_enter func148,ntmps148;go_wp2_with fail;go_quiet (fail);rw[←HT.out];have RP:Below w.heap.size w (w.drewN nq):=bZ (aU w.heap.size w) nq;generalize w.drewN nq=w2 at RP ⊢
 go_wp2_with fail;refine(Cc t _ (by omega)).mono ?_;rintro e w3 ⟨rfl,rfl⟩;go_wp2_with fail;refine(JV t _ (by omega)).mono ?_;rintro e w3 ⟨rfl,cu⟩;have AH:=RP.trans (cu.mono RP.size);clear cu RP;have h1:=pX t.data.toList;have h2:=kD t.data.toList;rw[af]at h1 h2;obtain⟨np,Ht⟩: ∃k,an t.data.toList=k:=⟨_,rfl⟩;obtain⟨sp,gM⟩: ∃k,aX t.data.toList=k:=⟨_,rfl⟩;rw[Ht]at h1;rw[gM]at h2;rw[Ht,gM];have mh:=HZ.out.below AH;have qe:=eQ HO.out AH;have aeL:=hT.fQ HW.out (AH.mono (jk (o7 gN aA)));have RU:base≤w3.heap.size:=jk (o7 gN mh.lt);have oc:=AH.mono (jk (o7 gN aA));have ZD:=ae Ht;have HSP:=ae gM;have sQ:=ae mh;have qL:=ae qe;have kG:=ae oc;have HTW:=ae aeL;clear Ht gM mh qe oc aeL AH c0 c1;have Dr: ∀(w':World),bG t.data.toList br sq= .bad 112→Below base w3 w'→Below w3.heap.size w3 w'→cA base p s at' br sq ts w (bG t.data.toList br sq) (.returned (.int .i64 112)) w':=by
  intro w' h aY aQ;rw[h];exact⟨rfl,v,sQ.out.below aQ,eQ qL.out aQ,kG.out.trans aY⟩
 have ve:=ae Dr;clear Dr;cases hd:decide (np<sp)
 ·obtain⟨hk,hn,he⟩:=OJ ZD.out (by rw[HSP.out];exact sX hd);have HN:=ae hn;have HK:=ae hk;have HE:=ae he;clear hk hn he;have aeM:=ae (FD.out (by rw[ZD.out,HSP.out];exact sX hd));by_cases jR:np<t.size
  ·have Hu:=yU HN.out jR;have aQ:((t[np].toNat:Int)==46)=(t[np].toNat==46):=by rw[eo];simp;omega
   cases hl:letter t[np]
   ·cases hg:digit t[np]
    ·cases od:((t[np].toNat:Int)==46)
     ·have hF:ct t.data.toList=false:=by rw[Hu,hl,hg,←aQ,od];rfl
      clear Hu aQ;go_wp2_with (first|(go_at_call 118;refine(bw _ _).mono ?_;rintro e w' ⟨rfl,rfl⟩)|(go_at_call 135;refine(cz _ _).mono ?_;rintro e w' ⟨rfl,rfl⟩));refine(hT.read (t.extract 0 np) base _ (by rw[fB,←ZD.out];exact aeM.out) HTW.out RU (by simp;omega)).mono ?_;rintro e w4 ⟨⟨fv,rfl⟩,fe⟩;rw[fB,←HE.out];have oZ:=sQ.out.below fe;have Hl:=eQ qL.out fe;have lj:=fe.mono RU;have Wt:=ae oZ;have Ps:=ae Hl;have ml:=ae fe;have mW:=ae lj;clear oZ Hl fe lj;cases hz:((iO t.data.toList:Int) != 0)
      ·have hR:=mN (br:=br) (sq:=sq) HK.out HN.out hF (AP hz);have HR:=ae hR;clear hR;go_wp2_with fail;refine(eR w4 base p s at' 3 np _ _ rfl rfl br sq v ts hs (by omega) (by omega) Wt.out Ps.out hlen gN).mono ?_;intro e w5 hp;have h0:=hp.1;subst h0;have HQ:=ae (hp.from (kG.out.trans mW.out));clear hp;go_wp2_with fail;go_ret;rw[HR.out];exact HQ.out
      ·have hR:=kX (br:=br) (sq:=sq) hF (zO hz);have HR:=ae hR;clear hR;go_wp2_with fail;go_ret;exact ve.out w4 HR.out mW.out ml.out
     ·have hF:ct t.data.toList=true:=by rw[Hu,hl,hg,←aQ,od];rfl
      have HF:=ae hF;clear Hu aQ hF;go_wp2_with (first|(go_at_call 118;refine(bw _ _).mono ?_;rintro e w' ⟨rfl,rfl⟩)|(go_at_call 135;refine(cz _ _).mono ?_;rintro e w' ⟨rfl,rfl⟩));go_ret;exact ve.out w3 (fE HF.out) (aU _ _) (aU _ _)
    ·have hF:ct t.data.toList=true:=by rw[Hu,hl,hg];rfl
     have HF:=ae hF;clear Hu aQ hF;go_wp2_with (first|(go_at_call 118;refine(bw _ _).mono ?_;rintro e w' ⟨rfl,rfl⟩)|(go_at_call 135;refine(cz _ _).mono ?_;rintro e w' ⟨rfl,rfl⟩));go_ret;exact ve.out w3 (fE HF.out) (aU _ _) (aU _ _)
   ·have hF:ct t.data.toList=true:=by rw[Hu,hl];rfl
    have HF:=ae hF;clear Hu aQ hF;go_wp2_with (first|(go_at_call 118;refine(bw _ _).mono ?_;rintro e w' ⟨rfl,rfl⟩)|(go_at_call 135;refine(cz _ _).mono ?_;rintro e w' ⟨rfl,rfl⟩));go_ret;exact ve.out w3 (fE HF.out) (aU _ _) (aU _ _)
  ·have hF:=wL HN.out jR;go_wp2_with (first|(go_at_call 118;refine(bw _ _).mono ?_;rintro e w' ⟨rfl,rfl⟩)|(go_at_call 135;refine(cz _ _).mono ?_;rintro e w' ⟨rfl,rfl⟩));refine(hT.read (t.extract 0 np) base _ (by rw[fB,←ZD.out];exact aeM.out) HTW.out RU (by simp;omega)).mono ?_;rintro e w4 ⟨⟨fv,rfl⟩,fe⟩;rw[fB,←HE.out];have oZ:=sQ.out.below fe;have Hl:=eQ qL.out fe;have lj:=fe.mono RU;have Wt:=ae oZ;have Ps:=ae Hl;have ml:=ae fe;have mW:=ae lj;clear oZ Hl fe lj;cases hz:((iO t.data.toList:Int) != 0)
   ·have hR:=mN (br:=br) (sq:=sq) HK.out HN.out hF (AP hz);have HR:=ae hR;clear hR;go_wp2_with fail;refine(eR w4 base p s at' 3 np _ _ rfl rfl br sq v ts hs (by omega) (by omega) Wt.out Ps.out hlen gN).mono ?_;intro e w5 hp;have h0:=hp.1;subst h0;have HQ:=ae (hp.from (kG.out.trans mW.out));clear hp;go_wp2_with fail;go_ret;rw[HR.out];exact HQ.out
   ·have hR:=kX (br:=br) (sq:=sq) hF (zO hz);have HR:=ae hR;clear hR;go_wp2_with fail;go_ret;exact ve.out w4 HR.out mW.out ml.out
 ·obtain⟨hk,hn,he⟩:=Jk HSP.out (by rw[ZD.out];exact mR hd);have HN:=ae hn;have HK:=ae hk;have HE:=ae he;clear hk hn he;by_cases jR:sp<t.size
  ·have Hu:=yU HN.out jR;have aQ:((t[sp].toNat:Int)==46)=(t[sp].toNat==46):=by rw[eo];simp;omega
   cases hl:letter t[sp]
   ·cases hg:digit t[sp]
    ·cases od:((t[sp].toNat:Int)==46)
     ·have hF:ct t.data.toList=false:=by rw[Hu,hl,hg,←aQ,od];rfl
      clear Hu aQ;go_wp2_with (first|(go_at_call 118;refine(bw _ _).mono ?_;rintro e w' ⟨rfl,rfl⟩)|(go_at_call 135;refine(cz _ _).mono ?_;rintro e w' ⟨rfl,rfl⟩));refine(Cb (t.extract 0 sp) _).mono ?_;rintro e w4 ⟨rfl,fe⟩;rw[fB,←HE.out];have oZ:=sQ.out.below fe;have Hl:=eQ qL.out fe;have lj:=fe.mono RU;have Wt:=ae oZ;have Ps:=ae Hl;have ml:=ae fe;have mW:=ae lj;clear oZ Hl fe lj;cases hz:((iO t.data.toList:Int) != 0)
      ·have hR:=mN (br:=br) (sq:=sq) HK.out HN.out hF (AP hz);have HR:=ae hR;clear hR;go_wp2_with fail;refine(eR w4 base p s at' 4 sp _ _ rfl rfl br sq v ts hs (by omega) (by omega) Wt.out Ps.out hlen gN).mono ?_;intro e w5 hp;have h0:=hp.1;subst h0;have HQ:=ae (hp.from (kG.out.trans mW.out));clear hp;go_wp2_with fail;go_ret;rw[HR.out];exact HQ.out
      ·have hR:=kX (br:=br) (sq:=sq) hF (zO hz);have HR:=ae hR;clear hR;go_wp2_with fail;go_ret;exact ve.out w4 HR.out mW.out ml.out
     ·have hF:ct t.data.toList=true:=by rw[Hu,hl,hg,←aQ,od];rfl
      have HF:=ae hF;clear Hu aQ hF;go_wp2_with (first|(go_at_call 118;refine(bw _ _).mono ?_;rintro e w' ⟨rfl,rfl⟩)|(go_at_call 135;refine(cz _ _).mono ?_;rintro e w' ⟨rfl,rfl⟩));go_ret;exact ve.out w3 (fE HF.out) (aU _ _) (aU _ _)
    ·have hF:ct t.data.toList=true:=by rw[Hu,hl,hg];rfl
     have HF:=ae hF;clear Hu aQ hF;go_wp2_with (first|(go_at_call 118;refine(bw _ _).mono ?_;rintro e w' ⟨rfl,rfl⟩)|(go_at_call 135;refine(cz _ _).mono ?_;rintro e w' ⟨rfl,rfl⟩));go_ret;exact ve.out w3 (fE HF.out) (aU _ _) (aU _ _)
   ·have hF:ct t.data.toList=true:=by rw[Hu,hl];rfl
    have HF:=ae hF;clear Hu aQ hF;go_wp2_with (first|(go_at_call 118;refine(bw _ _).mono ?_;rintro e w' ⟨rfl,rfl⟩)|(go_at_call 135;refine(cz _ _).mono ?_;rintro e w' ⟨rfl,rfl⟩));go_ret;exact ve.out w3 (fE HF.out) (aU _ _) (aU _ _)
  ·have hF:=wL HN.out jR;go_wp2_with (first|(go_at_call 118;refine(bw _ _).mono ?_;rintro e w' ⟨rfl,rfl⟩)|(go_at_call 135;refine(cz _ _).mono ?_;rintro e w' ⟨rfl,rfl⟩));refine(Cb (t.extract 0 sp) _).mono ?_;rintro e w4 ⟨rfl,fe⟩;rw[fB,←HE.out];have oZ:=sQ.out.below fe;have Hl:=eQ qL.out fe;have lj:=fe.mono RU;have Wt:=ae oZ;have Ps:=ae Hl;have ml:=ae fe;have mW:=ae lj;clear oZ Hl fe lj;cases hz:((iO t.data.toList:Int) != 0)
   ·have hR:=mN (br:=br) (sq:=sq) HK.out HN.out hF (AP hz);have HR:=ae hR;clear hR;go_wp2_with fail;refine(eR w4 base p s at' 4 sp _ _ rfl rfl br sq v ts hs (by omega) (by omega) Wt.out Ps.out hlen gN).mono ?_;intro e w5 hp;have h0:=hp.1;subst h0;have HQ:=ae (hp.from (kG.out.trans mW.out));clear hp;go_wp2_with fail;go_ret;rw[HR.out];exact HQ.out
   ·have hR:=kX (br:=br) (sq:=sq) hF (zO hz);have HR:=ae hR;clear hR;go_wp2_with fail;go_ret;exact ve.out w4 HR.out mW.out ml.out
theorem cA.put {r:AO} (hr:r= .tok k n br' sq') (hb:Below base w w1)
  (h:nu base p s (at'+n) br' sq' (ts++[⟨k,(s.data.toList.drop at').take n,at'⟩]) w1 e w'):cA base p s at' br sq ts w r e w':=by
 subst hr;exact h.from hb
theorem YA (g0:(L==[61,61])=false) (g1:(L==[33,61])=false) (g2:(L==[61,126])=false) (g3:(L==[33,126])=false) (g4:(L==[60,61])=false) (g5:(L==[62,61])=false):SW.contains L=false:=by
 simp only[bN]at g0 g1 g2 g3 g4 g5;simp only[SW,List.contains_eq_mem,decide_eq_false_iff_not,gL,ll,iX];rintro(h|h|h|h|h|h)
 ·exact g0 h
 ·exact g1 h
 ·exact g2 h
 ·exact g3 h
 ·exact g4 h
 ·exact g5 h
theorem MG (L:List UInt8):((L==[61,61])=true)∨((L==[61,61])=false∧(L==[33,61])=true)∨((L==[61,61])=false∧(L==[33,61])=false∧(L==[61,126])=true)∨((L==[61,61])=false∧(L==[33,61])=false∧(L==[61,126])=false∧(L==[33,126])=true)∨((L==[61,61])=false∧(L==[33,61])=false∧(L==[61,126])=false∧(L==[33,126])=false∧(L==[60,61])=true)∨((L==[61,61])=false∧(L==[33,61])=false∧(L==[61,126])=false∧(L==[33,126])=false∧(L==[60,61])=false∧(L==[62,61])=true)∨((L==[61,61])=false∧(L==[33,61])=false∧(L==[61,126])=false∧(L==[33,126])=false∧(L==[60,61])=false∧(L==[62,61])=false):=by
 cases (L==[61,61])<;>cases (L==[33,61])<;>cases (L==[61,126])<;>cases (L==[33,126])<;>cases (L==[60,61])<;>cases (L==[62,61])<;>simp
theorem Cm (n:Nat):(n=123∨n=125∨n=91∨n=93)∨(n=40∨n=41∨n=44∨n=58∨n=61∨n=60∨n=62∨n=43∨n=45∨n=42∨n=47∨n=37∨n=94∨n=64)∨(((n:Int)==123)=false∧((n:Int)==125)=false∧((n:Int)==91)=false∧((n:Int)==93)=false∧((n:Int)==40)=false∧((n:Int)==41)=false∧((n:Int)==44)=false∧((n:Int)==58)=false∧((n:Int)==61)=false∧((n:Int)==60)=false∧((n:Int)==62)=false∧((n:Int)==43)=false∧((n:Int)==45)=false∧((n:Int)==42)=false∧((n:Int)==47)=false∧((n:Int)==37)=false∧((n:Int)==94)=false∧((n:Int)==64)=false∧n≠123∧n≠125∧n≠91∧n≠93∧n≠40∧n≠41∧n≠44∧n≠58∧n≠61∧n≠60∧n≠62∧n≠43∧n≠45∧n≠42∧n≠47∧n≠37∧n≠94∧n≠64):=by
 by_cases h1:n=123∨n=125∨n=91∨n=93
 ·exact .inl h1
 ·by_cases h2:n=40∨n=41∨n=44∨n=58∨n=61∨n=60∨n=62∨n=43∨n=45∨n=42∨n=47∨n=37∨n=94∨n=64
  ·exact .inr (.inl h2)
  ·refine .inr (.inr ⟨?_,?_,?_,?_,?_,?_,?_,?_,?_,?_,?_,?_,?_,?_,?_,?_,?_,?_,?_,?_,?_,?_,?_,?_,?_,?_,?_,?_,?_,?_,?_,?_,?_,?_,?_,?_⟩)
   all_goals first|omega|(refine bN.2 ?_;omega)
theorem lR (w:World) (base p:Nat) (s:ByteArray) (at':Nat) (br sq:Bool) (v:Value) (ts:List Tok) (hs:s.size≤281474976710656) (cI:at'<s.size)
  (hz:qH w p s at' br sq v) (aP:w.ownsRow base 139 3 v ts.length (aO ts)) (hlen:ts.length≤1099511627776) (gN:base≤p):
  Calls prog 151 #[.pointer (some ⟨p,0,none⟩)] w (cA base p s at' br sq ts w (sc (s.data.toList.drop at') br sq)):=by
 have c0:w.cell? ⟨p,0,none⟩=some (.string s):=by rw[hz.cell];rfl
 have c1:w.cell? ⟨p,1,none⟩=some (.int .i64 (at':Int)):=by rw[hz.cell];rfl
 have q1:((at':Int)≤(s.size:Int))=True:=by simp;omega
 obtain⟨t,ht⟩: ∃t,t=s.extract at' s.size:=⟨_,rfl⟩;have qG:t.data.toList=s.data.toList.drop at':=by rw[ht,fX]
 have KV:t.size=s.size-at':=by rw[ht];simp
 have ht0:0<t.size:=by omega
 rw[←qG];have HZ:=ae hz;have HO:=ae aP;have HD:=ae qG;have HT:=ae ht;clear hz aP qG ht;go_enter func151,ntmps151;go_wp2_with fail;go_quiet (fail);rw[←HT.out];have ej:qH (w.drewN nq) p s at' br sq v:=aM.drewN HZ.out nq;have D5:(w.drewN nq).ownsRow base 139 3 v ts.length (aO ts):=HO.out;have aQ:Below base w (w.drewN nq):=bZ (aU base w) nq;generalize w.drewN nq=w2 at ej D5 aQ ⊢
 have d2:w2.cell? ⟨p,2,none⟩=some (.bool br):=by rw[ej.cell];rfl
 have d3:w2.cell? ⟨p,3,none⟩=some (.bool sq):=by rw[ej.cell];rfl
 have f2:w2.frozen? ⟨p,2,none⟩=false:=ej.frozen 2;have f3:w2.frozen? ⟨p,3,none⟩=false:=ej.frozen 3;have xp:(au t.data.toList 0).toNat=t[0].toNat:=by rw[ay ht0]
 have iE:=ae ej;have lD:=ae D5;have bF:=ae aQ;have HA:=ae xp;clear ej D5 aQ xp c0 c1;obtain⟨L,hL⟩: ∃L,L=t.data.toList.take 2:=⟨_,rfl⟩;have hD:(1<t.size∧Hk t.data.toList=SW.contains L)∨(¬1<t.size∧Hk t.data.toList=false):=by
  by_cases h1:1<t.size
  ·exact .inl ⟨h1,by rw[Hk,af,dO h1,mx,hL]⟩
  ·exact .inr ⟨h1,by rw[Hk,af,gj h1,qX]⟩
 have hLs:t.extract 0 2=⟨L.toArray⟩:=by rw[hL,←mk_data (t.extract 0 2),fB]
 have HL:=ae hLs;clear hL hLs;rcases hD with⟨h1,aeN⟩|⟨h1,ye⟩
 ·have LG:=ae aeN;clear aeN;go_upto_region 4 with fail
  rw[HL.out];rcases MG L with g0|⟨g0,g1⟩|⟨g0,g1,g2⟩|⟨g0,g1,g2,g3⟩|⟨g0,g1,g2,g3,g4⟩|⟨g0,g1,g2,g3,g4,g5⟩|⟨g0,g1,g2,g3,g4,g5⟩
  iterate 6
   ·have hR:sc t.data.toList br sq= .tok 6 2 br sq:=Yw (by(first|rw[LG.out,cx.1 g5]|rw[LG.out,cx.1 g4]|rw[LG.out,cx.1 g3]|rw[LG.out,cx.1 g2]|rw[LG.out,cx.1 g1]|rw[LG.out,cx.1 g0]);rfl);have HR:=ae hR;clear hR;go_wp2_with fail;refine(eR w2 base p s at' 6 2 _ _ rfl rfl br sq v ts hs (by omega) (by omega) iE.out lD.out hlen gN).mono ?_;intro e w5 hp;have h0:=hp.1;subst h0;have HQ:=ae (cA.put (br:=br) (sq:=sq) HR.out bF.out hp);clear hp;go_wp2_with fail;go_ret;exact HQ.out
  have ye:Hk t.data.toList=false:=by
   rw[LG.out];exact YA g0 g1 g2 g3 g4 g5
  have Pt:=ae ye;clear ye;go_upto_region 13 with fail
  rcases Cm t[0].toNat with(hN|hN|hN|hN)|(hN|hN|hN|hN|hN|hN|hN|hN|hN|hN|hN|hN|hN|hN)|⟨ajM,ajN,e91,e93,e40,e41,e44,tj,e61,e60,e62,e43,e45,e42,e47,e37,e94,e64,n123,n125,n91,n93,n40,n41,n44,n58,n61,n60,n62,n43,n45,n42,n47,n37,n94,n64⟩
  ·have hR:sc t.data.toList br sq= .tok 6 1 true sq:=(iM Pt.out (HA.out.trans hN)).trans rfl;have oZ:=aM.dz iE.out 2 (.bool true);have mh:qH (w2.setCell ⟨p,2,none⟩ (.bool true)) p s at' true sq v:=by simpa [qH]using oZ
   have qe:=aG (i:=2) lD.out iE.out (by decide) (.bool true);have cu:=bF.out.setCell (p:=⟨p,2,none⟩) gN (.bool true);have sQ:=ae mh;have qL:=ae qe;have fZ:=ae cu;clear oZ mh qe cu;have HR:=ae hR;clear hR;go_wp2_with fail;refine(eR _ base p s at' 6 1 _ _ rfl rfl true sq v ts hs (by omega) (by omega) sQ.out qL.out hlen gN).mono ?_;intro e w5 hp;have h0:=hp.1;subst h0;have HQ:=ae (cA.put (br:=br) (sq:=sq) HR.out fZ.out hp);clear hp;go_wp2_with fail;go_ret;exact HQ.out
  ·have hR:sc t.data.toList br sq= .tok 6 1 false sq:=(iM Pt.out (HA.out.trans hN)).trans rfl;have oZ:=aM.dz iE.out 2 (.bool false);have mh:qH (w2.setCell ⟨p,2,none⟩ (.bool false)) p s at' false sq v:=by simpa [qH]using oZ
   have qe:=aG (i:=2) lD.out iE.out (by decide) (.bool false);have cu:=bF.out.setCell (p:=⟨p,2,none⟩) gN (.bool false);have sQ:=ae mh;have qL:=ae qe;have fZ:=ae cu;clear oZ mh qe cu;have HR:=ae hR;clear hR;go_wp2_with fail;refine(eR _ base p s at' 6 1 _ _ rfl rfl false sq v ts hs (by omega) (by omega) sQ.out qL.out hlen gN).mono ?_;intro e w5 hp;have h0:=hp.1;subst h0;have HQ:=ae (cA.put (br:=br) (sq:=sq) HR.out fZ.out hp);clear hp;go_wp2_with fail;go_ret;exact HQ.out
  ·have hR:sc t.data.toList br sq= .tok 6 1 br true:=(iM Pt.out (HA.out.trans hN)).trans rfl;have oZ:=aM.dz iE.out 3 (.bool true);have mh:qH (w2.setCell ⟨p,3,none⟩ (.bool true)) p s at' br true v:=by simpa [qH]using oZ
   have qe:=aG (i:=3) lD.out iE.out (by decide) (.bool true);have cu:=bF.out.setCell (p:=⟨p,3,none⟩) gN (.bool true);have sQ:=ae mh;have qL:=ae qe;have fZ:=ae cu;clear oZ mh qe cu;have HR:=ae hR;clear hR;go_wp2_with fail;refine(eR _ base p s at' 6 1 _ _ rfl rfl br true v ts hs (by omega) (by omega) sQ.out qL.out hlen gN).mono ?_;intro e w5 hp;have h0:=hp.1;subst h0;have HQ:=ae (cA.put (br:=br) (sq:=sq) HR.out fZ.out hp);clear hp;go_wp2_with fail;go_ret;exact HQ.out
  ·have hR:sc t.data.toList br sq= .tok 6 1 br false:=(iM Pt.out (HA.out.trans hN)).trans rfl;have oZ:=aM.dz iE.out 3 (.bool false);have mh:qH (w2.setCell ⟨p,3,none⟩ (.bool false)) p s at' br false v:=by simpa [qH]using oZ
   have qe:=aG (i:=3) lD.out iE.out (by decide) (.bool false);have cu:=bF.out.setCell (p:=⟨p,3,none⟩) gN (.bool false);have sQ:=ae mh;have qL:=ae qe;have fZ:=ae cu;clear oZ mh qe cu;have HR:=ae hR;clear hR;go_wp2_with fail;refine(eR _ base p s at' 6 1 _ _ rfl rfl br false v ts hs (by omega) (by omega) sQ.out qL.out hlen gN).mono ?_;intro e w5 hp;have h0:=hp.1;subst h0;have HQ:=ae (cA.put (br:=br) (sq:=sq) HR.out fZ.out hp);clear hp;go_wp2_with fail;go_ret;exact HQ.out
  iterate 14
   ·have hR:sc t.data.toList br sq= .tok 6 1 br sq:=(iM Pt.out (HA.out.trans hN)).trans rfl;have HR:=ae hR;clear hR;go_wp2_with fail;refine(eR w2 base p s at' 6 1 _ _ rfl rfl br sq v ts hs (by omega) (by omega) iE.out lD.out hlen gN).mono ?_;intro e w5 hp;have h0:=hp.1;subst h0;have HQ:=ae (cA.put (br:=br) (sq:=sq) HR.out bF.out hp);clear hp;go_wp2_with fail;go_ret;exact HQ.out
  ·have hR:sc t.data.toList br sq= .bad 110:=by
    rw[iM Pt.out HA.out,ah n123,ah n125,ah n91,ah n93,ah];simp[LD];omega
   have HR:=ae hR;clear hR n123 n125 n91 n93 n40 n41 n44 n58 n61 n60 n62 n43 n45 n42 n47 n37 n94 n64;go_wp2_with fail;go_ret;rw[HR.out];exact⟨rfl,v,iE.out,lD.out,bF.out⟩
 ·have Pt:=ae ye;clear ye;go_upto_region 13 with fail
  rcases Cm t[0].toNat with(hN|hN|hN|hN)|(hN|hN|hN|hN|hN|hN|hN|hN|hN|hN|hN|hN|hN|hN)|⟨ajM,ajN,e91,e93,e40,e41,e44,tj,e61,e60,e62,e43,e45,e42,e47,e37,e94,e64,n123,n125,n91,n93,n40,n41,n44,n58,n61,n60,n62,n43,n45,n42,n47,n37,n94,n64⟩
  ·have hR:sc t.data.toList br sq= .tok 6 1 true sq:=(iM Pt.out (HA.out.trans hN)).trans rfl;have oZ:=aM.dz iE.out 2 (.bool true);have mh:qH (w2.setCell ⟨p,2,none⟩ (.bool true)) p s at' true sq v:=by simpa [qH]using oZ
   have qe:=aG (i:=2) lD.out iE.out (by decide) (.bool true);have cu:=bF.out.setCell (p:=⟨p,2,none⟩) gN (.bool true);have sQ:=ae mh;have qL:=ae qe;have fZ:=ae cu;clear oZ mh qe cu;have HR:=ae hR;clear hR;go_wp2_with fail;refine(eR _ base p s at' 6 1 _ _ rfl rfl true sq v ts hs (by omega) (by omega) sQ.out qL.out hlen gN).mono ?_;intro e w5 hp;have h0:=hp.1;subst h0;have HQ:=ae (cA.put (br:=br) (sq:=sq) HR.out fZ.out hp);clear hp;go_wp2_with fail;go_ret;exact HQ.out
  ·have hR:sc t.data.toList br sq= .tok 6 1 false sq:=(iM Pt.out (HA.out.trans hN)).trans rfl;have oZ:=aM.dz iE.out 2 (.bool false);have mh:qH (w2.setCell ⟨p,2,none⟩ (.bool false)) p s at' false sq v:=by simpa [qH]using oZ
   have qe:=aG (i:=2) lD.out iE.out (by decide) (.bool false);have cu:=bF.out.setCell (p:=⟨p,2,none⟩) gN (.bool false);have sQ:=ae mh;have qL:=ae qe;have fZ:=ae cu;clear oZ mh qe cu;have HR:=ae hR;clear hR;go_wp2_with fail;refine(eR _ base p s at' 6 1 _ _ rfl rfl false sq v ts hs (by omega) (by omega) sQ.out qL.out hlen gN).mono ?_;intro e w5 hp;have h0:=hp.1;subst h0;have HQ:=ae (cA.put (br:=br) (sq:=sq) HR.out fZ.out hp);clear hp;go_wp2_with fail;go_ret;exact HQ.out
  ·have hR:sc t.data.toList br sq= .tok 6 1 br true:=(iM Pt.out (HA.out.trans hN)).trans rfl;have oZ:=aM.dz iE.out 3 (.bool true);have mh:qH (w2.setCell ⟨p,3,none⟩ (.bool true)) p s at' br true v:=by simpa [qH]using oZ
   have qe:=aG (i:=3) lD.out iE.out (by decide) (.bool true);have cu:=bF.out.setCell (p:=⟨p,3,none⟩) gN (.bool true);have sQ:=ae mh;have qL:=ae qe;have fZ:=ae cu;clear oZ mh qe cu;have HR:=ae hR;clear hR;go_wp2_with fail;refine(eR _ base p s at' 6 1 _ _ rfl rfl br true v ts hs (by omega) (by omega) sQ.out qL.out hlen gN).mono ?_;intro e w5 hp;have h0:=hp.1;subst h0;have HQ:=ae (cA.put (br:=br) (sq:=sq) HR.out fZ.out hp);clear hp;go_wp2_with fail;go_ret;exact HQ.out
  ·have hR:sc t.data.toList br sq= .tok 6 1 br false:=(iM Pt.out (HA.out.trans hN)).trans rfl;have oZ:=aM.dz iE.out 3 (.bool false);have mh:qH (w2.setCell ⟨p,3,none⟩ (.bool false)) p s at' br false v:=by simpa [qH]using oZ
   have qe:=aG (i:=3) lD.out iE.out (by decide) (.bool false);have cu:=bF.out.setCell (p:=⟨p,3,none⟩) gN (.bool false);have sQ:=ae mh;have qL:=ae qe;have fZ:=ae cu;clear oZ mh qe cu;have HR:=ae hR;clear hR;go_wp2_with fail;refine(eR _ base p s at' 6 1 _ _ rfl rfl br false v ts hs (by omega) (by omega) sQ.out qL.out hlen gN).mono ?_;intro e w5 hp;have h0:=hp.1;subst h0;have HQ:=ae (cA.put (br:=br) (sq:=sq) HR.out fZ.out hp);clear hp;go_wp2_with fail;go_ret;exact HQ.out
  iterate 14
   ·have hR:sc t.data.toList br sq= .tok 6 1 br sq:=(iM Pt.out (HA.out.trans hN)).trans rfl;have HR:=ae hR;clear hR;go_wp2_with fail;refine(eR w2 base p s at' 6 1 _ _ rfl rfl br sq v ts hs (by omega) (by omega) iE.out lD.out hlen gN).mono ?_;intro e w5 hp;have h0:=hp.1;subst h0;have HQ:=ae (cA.put (br:=br) (sq:=sq) HR.out bF.out hp);clear hp;go_wp2_with fail;go_ret;exact HQ.out
  ·have hR:sc t.data.toList br sq= .bad 110:=by
    rw[iM Pt.out HA.out,ah n123,ah n125,ah n91,ah n93,ah];simp[LD];omega
   have HR:=ae hR;clear hR n123 n125 n91 n93 n40 n41 n44 n58 n61 n60 n62 n43 n45 n42 n47 n37 n94 n64;go_wp2_with fail;go_ret;rw[HR.out];exact⟨rfl,v,iE.out,lD.out,bF.out⟩
def rq (w:World) (g o:Nat) (xs:List (Int×ByteArray×Int)):Prop:=
 g<w.heap.size∧ ∀j (h:j<xs.length),w.cell? ⟨g,o+j*3,none⟩=some (.int .i64 xs[j].1)∧w.cell? ⟨g,o+j*3+1,none⟩=some (.string xs[j].2.1)∧w.cell? ⟨g,o+j*3+2,none⟩=some (.int .i64 xs[j].2.2)
theorem Sl {k:IntKind} (h:a=b):Value.int k a=Value.int k b:=by rw[h]
