import Derived.Shelf.Strings.Builder1
import Derived.Shelf.Small.Strs
import Derived.Shelf.Strings.Search1
import Derived.Shelf.Strings.Search2
import Derived.Shelf.Strings.Search3
import Derived.Test.YtcdoilkjmjbgmaaGreatDoorR06
import Derived.Lib.IndexAny
import Derived.Test.YtcdoilkjmjbgmaaGreatDoorR04
/- Part of the proof of YtcdoilkjmjbgmaaGreatDoorCardR: Shelf LexD LexE LexF LexN LexI. -/
set_option maxRecDepth 100000
set_option maxHeartbeats 4000000
set_option linter.unusedVariables false
set_option linter.unusedSimpArgs false
namespace Go.Proofs
open Go.Shelf
open Go.Shelf
open Tryz
def Tryz.Kx:Go.Shelf.Ren:=⟨fun|137=>133|217=>145|266=>155|n=>n,fun|9=>9|5=>5|3=>3|n=>n,fun|n=>n⟩
theorem Tryz.Yo:Go.Proofs.Lays.n137 prog Tryz.Kx:={
 mixed:=by kernel_rfl
 f137:=func133.trans (cz some (by kernel_rfl))
 f217:=func145.trans (cz some (by kernel_rfl))
 f266:=func155.trans (cz some (by kernel_rfl))
 t3:=underlying3
 a3:=Tryz.isAgg3
 z3:=Tryz.sizeOf3
 v3:=Tryz.zeroValue3
 t5:=underlying5
 a5:=Tryz.isAgg5
 z5:=Tryz.sizeOf5
 v5:=Tryz.zeroValue5
 t9:=underlying9
 a9:=Tryz.isAgg9
 z9:=Tryz.sizeOf9
 v9:=Tryz.zeroValue9}
open Go.RowKit in
theorem Tryz.strings_IndexByte (s:ByteArray) (c:Int) (w:World):
  Calls prog 133 #[.string s,.int .u8 c] w fun e w'=>e= .returned (.int .i64 (Lib.indexByte s.data.toList c.toNat.toUInt8))∧w'=w:=Any.strings_IndexByte Tryz.Yo s c w
def Tryz.Ky:Go.Shelf.Ren:=⟨fun|144=>156|143=>162|219=>178|217=>145|225=>188|224=>189|267=>190|266=>155|314=>199|n=>n,fun|9=>9|4=>4|3=>3|5=>5|46=>196|146=>254|51=>184|n=>n,fun|1=>1|n=>n⟩
theorem Tryz.Yp:Go.Proofs.Lays.n144 prog Tryz.Ky:={
 mixed:=by kernel_rfl
 f143:=func162.trans (cz some (by kernel_rfl))
 f144:=func156.trans (cz some (by kernel_rfl))
 f217:=func145.trans (cz some (by kernel_rfl))
 f219:=func178.trans (cz some (by kernel_rfl))
 f224:=func189.trans (cz some (by kernel_rfl))
 f225:=func188.trans (cz some (by kernel_rfl))
 f266:=func155.trans (cz some (by kernel_rfl))
 f267:=func190.trans (cz some (by kernel_rfl))
 f314:=func199.trans (cz some (by kernel_rfl))
 t3:=underlying3
 a3:=Tryz.isAgg3
 z3:=Tryz.sizeOf3
 v3:=Tryz.zeroValue3
 t4:=underlying4
 a4:=Tryz.isAgg4
 z4:=Tryz.sizeOf4
 v4:=Tryz.zeroValue4
 t5:=underlying5
 a5:=Tryz.isAgg5
 z5:=Tryz.sizeOf5
 v5:=Tryz.zeroValue5
 t9:=underlying9
 a9:=Tryz.isAgg9
 z9:=Tryz.sizeOf9
 v9:=Tryz.zeroValue9
 t46:=underlying196
 a46:=Tryz.isAgg196
 z46:=Tryz.sizeOf196
 v46:=Tryz.zeroValue196
 t51:=underlying184
 a51:=Tryz.isAgg184
 z51:=Tryz.sizeOf184
 v51:=Tryz.zeroValue184
 t146:=underlying254
 a146:=Tryz.isAgg254
 z146:=Tryz.sizeOf254
 v146:=Tryz.zeroValue254
 g1:=by kernel_rfl}
open Go.RowKit Go.Lib in
theorem Tryz.strings_Contains_one (s:ByteArray) (c:UInt8) (w:World):
  Calls prog 156 #[.string s,.string ⟨#[c]⟩] w fun e w'=>e= .returned (.bool (decide (0≤Lib.indexByte s.data.toList c)))∧w'=w:=Any.strings_Contains_one Tryz.Yp s c w
end Go.Proofs
namespace Go.Proofs.YtcdoilkjmjbgmaaGreatDoor
open Go.RowKit
open Tryz
variable {w w' w1:World} {base k p at' n:Nat} {v:Value} {xs:List Value} {s:ByteArray} {br sq br' sq':Bool} {ts:List Tok} {e:Ending} {T:Nat→World→Prop} {L:List UInt8} {c:UInt8} {a b:Int}
theorem eV (h:w.ownsRow base 139 3 v k xs) (hb:Below w.heap.size w w'):w'.ownsRow base 139 3 v k xs:=
 QO (row:=none) h ⟨hb.os,hb.tape,hb.output,hb.size,fun i hi _=>hb.block i hi⟩ (by simp)
theorem qV.below {w w':World} {p:Nat} {s:ByteArray} {at':Nat} {br sq:Bool} {v:Value} (h:qV w p s at' br sq v) (hb:Below w.heap.size w w'):qV w' p s at' br sq v:=aK.below h hb h.lt
theorem nA.from (h:nA base p s at' br sq ts w1 e w') (hb:Below base w w1):nA base p s at' br sq ts w e w':=by
 obtain⟨h1,v,h2,h3,h4⟩:=h;exact⟨h1,v,h2,h3,hb.trans h4⟩
theorem UO (w:World) (base p:Nat) (s:ByteArray) (at' n:Nat) (y:Int) (hy:y=(n:Int)) (br sq:Bool) (v:Value) (ts:List Tok) (hs:s.size≤281474976710656) (hn:at'+n≤s.size)
  (hz:qV w p s at' br sq v) (aL:w.ownsRow base 139 3 v ts.length (aP ts)) (hlen:ts.length≤1099511627776) (gW:base≤p):
  Calls prog 146 #[.pointer (some ⟨p,0,none⟩),.int .i64 y] w (nA base p s (at'+n) br sq (ts++[⟨cg br ((s.data.toList.drop at').take n),(s.data.toList.drop at').take n,at'⟩]) w):=by
 subst hy;have hw:IntKind.i64.wrap ((at':Int)+(n:Int))=((at'+n:Nat):Int):=by rw[xE];omega
 have q1:(0≤(at':Int)+(n:Int))=True:=by simp;omega
 have q2:((at':Int)+(n:Int)≤(s.size:Int))=True:=by simp;omega
 have q3:((at':Int)≤(at':Int)+(n:Int))=True:=by simp;omega
 have q4:((at':Int)+(n:Int)).toNat=at'+n:=by omega
 have c0:w.cell? ⟨p,0,none⟩=some (.string s):=by rw[hz.cell];rfl
 have c1:w.cell? ⟨p,1,none⟩=some (.int .i64 (at':Int)):=by rw[hz.cell];rfl
 obtain⟨t,ht⟩: ∃t,t=s.extract at' (at'+n):=⟨_,rfl⟩;have qU:t.data.toList=(s.data.toList.drop at').take n:=by rw[ht,Lib.extract_data,show at'+n-at'=n by omega]
 have Lu:t.size=n:=by rw[ht];simp;omega
 rw[←qU];have ax:=hz.lt;have HZ:=aa hz;have HO:=aa aL;have HD:=aa qU;have HT:=aa ht;clear hz aL qU ht;go_enter func146,ntmps146;go_wp2_with fail;go_quiet (fail);have ep:=HZ.below ((cr (aV w.heap.size w) nq));have zT:=eV HO ((cr (aV w.heap.size w) nq));have aN:Below base w (w.drewN nq):=(cr (aV base w) nq);rw[←HT.out];have d0:(w.drewN nq).cell? ⟨p,0,none⟩=some (.string s):=c0;generalize w.drewN nq=w2 at ep zT aN d0 ⊢
 go_wp2_with fail;refine(EV _ _ (by simp;unfold maxLen;omega)).mono ?_;rintro e w3 ⟨rfl,bW⟩;have hL:(t.extract 0 (min (n:Int) 4).toNat).data.toList.map low=(t.data.toList.take 4).map low:=by
  rw[fG];have:t.data.toList.length=n:=by rw[ab];exact Lu
  congr 1
  by_cases h:n≤4
  ·rw[A3 (by omega),A3 (by omega)]
  ·rw[show (min (n:Int) 4).toNat=4 by omega]
 rw[hL];have jU:=ep.below bW;have pg:=aa (eV zT bW);have HB:=aa (aN.trans (bW.mono (ju (pw gW ep.lt))));have d2:w3.cell? ⟨p,2,none⟩=some (.bool br):=by rw[jU.cell];rfl
 obtain⟨L,hLd⟩: ∃L,L=(t.data.toList.take 4).map low:=⟨_,rfl⟩;rw[←hLd];have xA:=aa jU;have HLd:=aa hLd;clear hL jU ep zT aN bW d0 hLd;go_wp2_with fail;refine(Tryz.strings_Contains_one t 58 _).mono ?_;rintro e w4 ⟨rfl,hw4⟩;subst hw4;rw[←Lib.contains_iff_indexByte];have aaU:=fun k hk x (hx:x=((k:Nat):Int))=>eW w4 base p s at' k n x (n:Int) hx rfl br sq v ts hs hn hk xA pg hlen gW
 rw[←HD.out]at aaU;have HP:=aa aaU;clear aaU;cases hc:t.data.toList.contains 58
 ·cases br
  ·cases h1:(L==[105,110,102])
   ·cases h2:(L==[110,97,110])
    ·have hk:cg false t.data.toList=1:=by
      rw[cg,hc,rL,←HLd.out,h1,h2];rfl
     have HK:=aa hk;clear hk;go_wp2_with fail;refine(HP 1 (by omega) _ rfl).mono ?_;intro e w5 hp;have h0:=hp.1;subst h0;have HQ:=aa (hp.from HB);clear hp;go_wp2_with fail;go_ret;rw[HK.out];exact HQ
    ·have hk:cg false t.data.toList=3:=by
      rw[cg,hc,rL,←HLd.out,h1,h2];rfl
     have HK:=aa hk;clear hk;go_wp2_with fail;refine(HP 3 (by omega) _ rfl).mono ?_;intro e w5 hp;have h0:=hp.1;subst h0;have HQ:=aa (hp.from HB);clear hp;go_wp2_with fail;go_ret;rw[HK.out];exact HQ
   ·have hk:cg false t.data.toList=3:=by
     rw[cg,hc,rL,←HLd.out,h1];rfl
    have HK:=aa hk;clear hk;go_wp2_with fail;refine(HP 3 (by omega) _ rfl).mono ?_;intro e w5 hp;have h0:=hp.1;subst h0;have HQ:=aa (hp.from HB);clear hp;go_wp2_with fail;go_ret;rw[HK.out];exact HQ
  ·have hk:cg true t.data.toList=1:=by
    rw[cg,hc];rfl
   have HK:=aa hk;clear hk;go_wp2_with fail;refine(HP 1 (by omega) _ rfl).mono ?_;intro e w5 hp;have h0:=hp.1;subst h0;have HQ:=aa (hp.from HB);clear hp;go_wp2_with fail;go_ret;rw[HK.out];exact HQ
 ·have hk:cg br t.data.toList=2:=by
   rw[cg,hc];rfl
  have HK:=aa hk;clear hk;go_wp2_with fail;refine(HP 2 (by omega) _ rfl).mono ?_;intro e w5 hp;have h0:=hp.1;subst h0;have HQ:=aa (hp.from HB);clear hp;go_wp2_with fail;go_ret;rw[HK.out];exact HQ
def AM (l:List UInt8):Prop:=digit (aq l 0)=true∨((aq l 0).toNat=46∧1<l.length∧digit (aq l 1)=true)
def Tz (ok:List UInt8→Prop) (l:List UInt8):Prop:=AM l→ ¬ag l<aY l→ok (l.take (ag l))
structure pK (ok:List UInt8→Prop) (T:Nat→World→Prop):Prop where
 fY: ∀{B w w'},T B w→Below B w w'→T B w'
 mono: ∀{B B' w},T B w→B≤B'→T B' w
 read: ∀(s:ByteArray) (B:Nat) (w:World),ok s.data.toList→T B w→B≤w.heap.size→s.size≤281474976710656→
  Calls prog 160 #[.string s] w fun e w'=>(∃v,e= .returned (.tuple #[v,.int .i64 (bK s.data.toList:Nat)]))∧Below w.heap.size w w'
def cD (base p:Nat) (s:ByteArray) (at':Nat) (br sq:Bool) (ts:List Tok) (w:World):A6→Ending→World→Prop
 | .bad k,e,w'=>e= .returned (.int .i64 (k:Nat))∧ ∃v,qV w' p s at' br sq v∧w'.ownsRow base 139 3 v ts.length (aP ts)∧Below base w w'
 | .tok kind n br' sq',e,w'=>nA base p s (at'+n) br' sq' (ts++[⟨kind,(s.data.toList.drop at').take n,at'⟩]) w e w'
theorem CF {ok:List UInt8→Prop} (hT:pK ok T) (w:World) (base p:Nat) (s:ByteArray) (at':Nat) (br sq:Bool) (v:Value) (ts:List Tok) (hs:s.size≤281474976710656) (cL:at'<s.size) (cJ: ¬ag (s.data.toList.drop at')<aY (s.data.toList.drop at')→ok ((s.data.toList.drop at').take (ag (s.data.toList.drop at')))) (kL:T base w)
  (hz:qV w p s at' br sq v) (aL:w.ownsRow base 139 3 v ts.length (aP ts)) (hlen:ts.length≤1099511627776) (gW:base≤p):
  Calls prog 148 #[.pointer (some ⟨p,0,none⟩)] w (cD base p s at' br sq ts w (bI (s.data.toList.drop at') br sq)):=by
 have c0:w.cell? ⟨p,0,none⟩=some (.string s):=by rw[hz.cell];rfl
 have c1:w.cell? ⟨p,1,none⟩=some (.int .i64 (at':Int)):=by rw[hz.cell];rfl
 have q1:((at':Int)≤(s.size:Int))=True:=by simp;omega
 obtain⟨t,ht⟩: ∃t,t=s.extract at' s.size:=⟨_,rfl⟩;have qU:t.data.toList=s.data.toList.drop at':=by rw[ht,gr]
 have Lu:t.size=s.size-at':=by rw[ht];simp
 rw[←qU]at cJ ⊢
 have FW:=aa cJ;clear cJ;have ax:=hz.lt;have HZ:=aa hz;have HO:=aa aL;have HD:=aa qU;have HT:=aa ht;have HW:=aa kL;clear hz aL qU ht kL;go_enter func148,ntmps148;go_wp2_with fail;go_quiet (fail);rw[←HT.out];have LG:Below w.heap.size w (w.drewN nq):=cr (aV w.heap.size w) nq;generalize w.drewN nq=w2 at LG ⊢
 go_wp2_with fail;refine(Cx t _ (by omega)).mono ?_;rintro e w3 ⟨rfl,rfl⟩;go_wp2_with fail;refine(Ks t _ (by omega)).mono ?_;rintro e w3 ⟨rfl,bW⟩;have AU:=LG.trans (bW.mono LG.size);clear bW LG;have h1:=ql t.data.toList;have h2:=kI t.data.toList;rw[ab]at h1 h2;obtain⟨np,Ip⟩: ∃k,ag t.data.toList=k:=⟨_,rfl⟩;obtain⟨sp,gV⟩: ∃k,aY t.data.toList=k:=⟨_,rfl⟩;rw[Ip]at h1;rw[gV]at h2;rw[Ip,gV];have jU:=HZ.out.below AU;have lv:=eV HO.out AU;have aeA:=hT.fY HW.out (AU.mono (ju (pw gW ax)));have Sj:base≤w3.heap.size:=ju (pw gW jU.lt);have yB:=AU.mono (ju (pw gW ax));have Zq:=aa Ip;have HSP:=aa gV;have xA:=aa jU;have pg:=aa lv;have gy:=aa yB;have HTW:=aa aeA;clear Ip gV jU lv yB aeA AU c0 c1;have DO: ∀(w':World),bI t.data.toList br sq= .bad 112→Below base w3 w'→Below w3.heap.size w3 w'→cD base p s at' br sq ts w (bI t.data.toList br sq) (.returned (.int .i64 112)) w':=by
  intro w' h aW aN;rw[h];exact⟨rfl,v,xA.out.below aN,eV pg.out aN,gy.out.trans aW⟩
 have vJ:=aa DO;clear DO;cases hd:decide (np<sp)
 ·obtain⟨hk,hn,he⟩:=O5 Zq.out (by rw[HSP.out];exact tw hd);have HN:=aa hn;have HK:=aa hk;have HE:=aa he;clear hk hn he;have aeB:=aa (FW.out (by rw[Zq.out,HSP.out];exact tw hd));by_cases nZ:np<t.size
  ·have Iq:=zp HN.out nZ;have aN:((t[np].toNat:Int)==46)=(t[np].toNat==46):=by rw[eH];simp;omega
   cases hl:letter t[np]
   ·cases hg:digit t[np]
    ·cases oo:((t[np].toNat:Int)==46)
     ·have hF:cx t.data.toList=false:=by rw[Iq,hl,hg,←aN,oo];rfl
      clear Iq aN;go_wp2_with (first|(go_at_call 118;refine(bD _ _).mono ?_;rintro e w' ⟨rfl,rfl⟩)|(go_at_call 135;refine(cA _ _).mono ?_;rintro e w' ⟨rfl,rfl⟩));refine(hT.read (t.extract 0 np) base _ (by rw[fG,←Zq.out];exact aeB.out) HTW.out Sj (by simp;omega)).mono ?_;rintro e w4 ⟨⟨fv,rfl⟩,fg⟩;rw[fG,←HE.out];have fz:=xA.out.below fg;have DH:=eV pg.out fg;have nc:=fg.mono Sj;have Lx:=aa fz;have PO:=aa DH;have pb:=aa fg;have pc:=aa nc;clear fz DH fg nc;cases hz:((iX t.data.toList:Int) != 0)
      ·have hR:=mR (br:=br) (sq:=sq) HK.out HN.out hF (A7 hz);have HR:=aa hR;clear hR;go_wp2_with fail;refine(eW w4 base p s at' 3 np _ _ rfl rfl br sq v ts hs (by omega) (by omega) Lx.out PO.out hlen gW).mono ?_;intro e w5 hp;have h0:=hp.1;subst h0;have HQ:=aa (hp.from (gy.out.trans pc.out));clear hp;go_wp2_with fail;go_ret;rw[HR.out];exact HQ.out
      ·have hR:=ln (br:=br) (sq:=sq) hF (Ac hz);have HR:=aa hR;clear hR;go_wp2_with fail;go_ret;exact vJ.out w4 HR.out pc.out pb.out
     ·have hF:cx t.data.toList=true:=by rw[Iq,hl,hg,←aN,oo];rfl
      have HF:=aa hF;clear Iq aN hF;go_wp2_with (first|(go_at_call 118;refine(bD _ _).mono ?_;rintro e w' ⟨rfl,rfl⟩)|(go_at_call 135;refine(cA _ _).mono ?_;rintro e w' ⟨rfl,rfl⟩));go_ret;exact vJ.out w3 (fK HF.out) (aV _ _) (aV _ _)
    ·have hF:cx t.data.toList=true:=by rw[Iq,hl,hg];rfl
     have HF:=aa hF;clear Iq aN hF;go_wp2_with (first|(go_at_call 118;refine(bD _ _).mono ?_;rintro e w' ⟨rfl,rfl⟩)|(go_at_call 135;refine(cA _ _).mono ?_;rintro e w' ⟨rfl,rfl⟩));go_ret;exact vJ.out w3 (fK HF.out) (aV _ _) (aV _ _)
   ·have hF:cx t.data.toList=true:=by rw[Iq,hl];rfl
    have HF:=aa hF;clear Iq aN hF;go_wp2_with (first|(go_at_call 118;refine(bD _ _).mono ?_;rintro e w' ⟨rfl,rfl⟩)|(go_at_call 135;refine(cA _ _).mono ?_;rintro e w' ⟨rfl,rfl⟩));go_ret;exact vJ.out w3 (fK HF.out) (aV _ _) (aV _ _)
  ·have hF:=xe HN.out nZ;go_wp2_with (first|(go_at_call 118;refine(bD _ _).mono ?_;rintro e w' ⟨rfl,rfl⟩)|(go_at_call 135;refine(cA _ _).mono ?_;rintro e w' ⟨rfl,rfl⟩));refine(hT.read (t.extract 0 np) base _ (by rw[fG,←Zq.out];exact aeB.out) HTW.out Sj (by simp;omega)).mono ?_;rintro e w4 ⟨⟨fv,rfl⟩,fg⟩;rw[fG,←HE.out];have fz:=xA.out.below fg;have DH:=eV pg.out fg;have nc:=fg.mono Sj;have Lx:=aa fz;have PO:=aa DH;have pb:=aa fg;have pc:=aa nc;clear fz DH fg nc;cases hz:((iX t.data.toList:Int) != 0)
   ·have hR:=mR (br:=br) (sq:=sq) HK.out HN.out hF (A7 hz);have HR:=aa hR;clear hR;go_wp2_with fail;refine(eW w4 base p s at' 3 np _ _ rfl rfl br sq v ts hs (by omega) (by omega) Lx.out PO.out hlen gW).mono ?_;intro e w5 hp;have h0:=hp.1;subst h0;have HQ:=aa (hp.from (gy.out.trans pc.out));clear hp;go_wp2_with fail;go_ret;rw[HR.out];exact HQ.out
   ·have hR:=ln (br:=br) (sq:=sq) hF (Ac hz);have HR:=aa hR;clear hR;go_wp2_with fail;go_ret;exact vJ.out w4 HR.out pc.out pb.out
 ·obtain⟨hk,hn,he⟩:=JO HSP.out (by rw[Zq.out];exact nT hd);have HN:=aa hn;have HK:=aa hk;have HE:=aa he;clear hk hn he;by_cases nZ:sp<t.size
  ·have Iq:=zp HN.out nZ;have aN:((t[sp].toNat:Int)==46)=(t[sp].toNat==46):=by rw[eH];simp;omega
   cases hl:letter t[sp]
   ·cases hg:digit t[sp]
    ·cases oo:((t[sp].toNat:Int)==46)
     ·have hF:cx t.data.toList=false:=by rw[Iq,hl,hg,←aN,oo];rfl
      clear Iq aN;go_wp2_with (first|(go_at_call 118;refine(bD _ _).mono ?_;rintro e w' ⟨rfl,rfl⟩)|(go_at_call 135;refine(cA _ _).mono ?_;rintro e w' ⟨rfl,rfl⟩));refine(Cu (t.extract 0 sp) _).mono ?_;rintro e w4 ⟨rfl,fg⟩;rw[fG,←HE.out];have fz:=xA.out.below fg;have DH:=eV pg.out fg;have nc:=fg.mono Sj;have Lx:=aa fz;have PO:=aa DH;have pb:=aa fg;have pc:=aa nc;clear fz DH fg nc;cases hz:((iX t.data.toList:Int) != 0)
      ·have hR:=mR (br:=br) (sq:=sq) HK.out HN.out hF (A7 hz);have HR:=aa hR;clear hR;go_wp2_with fail;refine(eW w4 base p s at' 4 sp _ _ rfl rfl br sq v ts hs (by omega) (by omega) Lx.out PO.out hlen gW).mono ?_;intro e w5 hp;have h0:=hp.1;subst h0;have HQ:=aa (hp.from (gy.out.trans pc.out));clear hp;go_wp2_with fail;go_ret;rw[HR.out];exact HQ.out
      ·have hR:=ln (br:=br) (sq:=sq) hF (Ac hz);have HR:=aa hR;clear hR;go_wp2_with fail;go_ret;exact vJ.out w4 HR.out pc.out pb.out
     ·have hF:cx t.data.toList=true:=by rw[Iq,hl,hg,←aN,oo];rfl
      have HF:=aa hF;clear Iq aN hF;go_wp2_with (first|(go_at_call 118;refine(bD _ _).mono ?_;rintro e w' ⟨rfl,rfl⟩)|(go_at_call 135;refine(cA _ _).mono ?_;rintro e w' ⟨rfl,rfl⟩));go_ret;exact vJ.out w3 (fK HF.out) (aV _ _) (aV _ _)
    ·have hF:cx t.data.toList=true:=by rw[Iq,hl,hg];rfl
     have HF:=aa hF;clear Iq aN hF;go_wp2_with (first|(go_at_call 118;refine(bD _ _).mono ?_;rintro e w' ⟨rfl,rfl⟩)|(go_at_call 135;refine(cA _ _).mono ?_;rintro e w' ⟨rfl,rfl⟩));go_ret;exact vJ.out w3 (fK HF.out) (aV _ _) (aV _ _)
   ·have hF:cx t.data.toList=true:=by rw[Iq,hl];rfl
    have HF:=aa hF;clear Iq aN hF;go_wp2_with (first|(go_at_call 118;refine(bD _ _).mono ?_;rintro e w' ⟨rfl,rfl⟩)|(go_at_call 135;refine(cA _ _).mono ?_;rintro e w' ⟨rfl,rfl⟩));go_ret;exact vJ.out w3 (fK HF.out) (aV _ _) (aV _ _)
  ·have hF:=xe HN.out nZ;go_wp2_with (first|(go_at_call 118;refine(bD _ _).mono ?_;rintro e w' ⟨rfl,rfl⟩)|(go_at_call 135;refine(cA _ _).mono ?_;rintro e w' ⟨rfl,rfl⟩));refine(Cu (t.extract 0 sp) _).mono ?_;rintro e w4 ⟨rfl,fg⟩;rw[fG,←HE.out];have fz:=xA.out.below fg;have DH:=eV pg.out fg;have nc:=fg.mono Sj;have Lx:=aa fz;have PO:=aa DH;have pb:=aa fg;have pc:=aa nc;clear fz DH fg nc;cases hz:((iX t.data.toList:Int) != 0)
   ·have hR:=mR (br:=br) (sq:=sq) HK.out HN.out hF (A7 hz);have HR:=aa hR;clear hR;go_wp2_with fail;refine(eW w4 base p s at' 4 sp _ _ rfl rfl br sq v ts hs (by omega) (by omega) Lx.out PO.out hlen gW).mono ?_;intro e w5 hp;have h0:=hp.1;subst h0;have HQ:=aa (hp.from (gy.out.trans pc.out));clear hp;go_wp2_with fail;go_ret;rw[HR.out];exact HQ.out
   ·have hR:=ln (br:=br) (sq:=sq) hF (Ac hz);have HR:=aa hR;clear hR;go_wp2_with fail;go_ret;exact vJ.out w4 HR.out pc.out pb.out
theorem cD.put {r:A6} (hr:r= .tok k n br' sq') (hb:Below base w w1)
  (h:nA base p s (at'+n) br' sq' (ts++[⟨k,(s.data.toList.drop at').take n,at'⟩]) w1 e w'):cD base p s at' br sq ts w r e w':=by
 subst hr;exact h.from hb
theorem Yq (g0:(L==[61,61])=false) (g1:(L==[33,61])=false) (g2:(L==[61,126])=false) (g3:(L==[33,126])=false) (g4:(L==[60,61])=false) (g5:(L==[62,61])=false):S9.contains L=false:=by
 simp only[bN]at g0 g1 g2 g3 g4 g5;simp only[S9,List.contains_eq_mem,decide_eq_false_iff_not,gB,kM,iP];rintro(h|h|h|h|h|h)
 ·exact g0 h
 ·exact g1 h
 ·exact g2 h
 ·exact g3 h
 ·exact g4 h
 ·exact g5 h
theorem MW (L:List UInt8):((L==[61,61])=true)∨((L==[61,61])=false∧(L==[33,61])=true)∨((L==[61,61])=false∧(L==[33,61])=false∧(L==[61,126])=true)∨((L==[61,61])=false∧(L==[33,61])=false∧(L==[61,126])=false∧(L==[33,126])=true)∨((L==[61,61])=false∧(L==[33,61])=false∧(L==[61,126])=false∧(L==[33,126])=false∧(L==[60,61])=true)∨((L==[61,61])=false∧(L==[33,61])=false∧(L==[61,126])=false∧(L==[33,126])=false∧(L==[60,61])=false∧(L==[62,61])=true)∨((L==[61,61])=false∧(L==[33,61])=false∧(L==[61,126])=false∧(L==[33,126])=false∧(L==[60,61])=false∧(L==[62,61])=false):=by
 cases (L==[61,61])<;>cases (L==[33,61])<;>cases (L==[61,126])<;>cases (L==[33,126])<;>cases (L==[60,61])<;>cases (L==[62,61])<;>simp
theorem CG (n:Nat):(n=123∨n=125∨n=91∨n=93)∨(n=40∨n=41∨n=44∨n=58∨n=61∨n=60∨n=62∨n=43∨n=45∨n=42∨n=47∨n=37∨n=94∨n=64)∨(((n:Int)==123)=false∧((n:Int)==125)=false∧((n:Int)==91)=false∧((n:Int)==93)=false∧((n:Int)==40)=false∧((n:Int)==41)=false∧((n:Int)==44)=false∧((n:Int)==58)=false∧((n:Int)==61)=false∧((n:Int)==60)=false∧((n:Int)==62)=false∧((n:Int)==43)=false∧((n:Int)==45)=false∧((n:Int)==42)=false∧((n:Int)==47)=false∧((n:Int)==37)=false∧((n:Int)==94)=false∧((n:Int)==64)=false∧n≠123∧n≠125∧n≠91∧n≠93∧n≠40∧n≠41∧n≠44∧n≠58∧n≠61∧n≠60∧n≠62∧n≠43∧n≠45∧n≠42∧n≠47∧n≠37∧n≠94∧n≠64):=by
 by_cases h1:n=123∨n=125∨n=91∨n=93
 ·exact .inl h1
 ·by_cases h2:n=40∨n=41∨n=44∨n=58∨n=61∨n=60∨n=62∨n=43∨n=45∨n=42∨n=47∨n=37∨n=94∨n=64
  ·exact .inr (.inl h2)
  ·refine .inr (.inr ⟨?_,?_,?_,?_,?_,?_,?_,?_,?_,?_,?_,?_,?_,?_,?_,?_,?_,?_,?_,?_,?_,?_,?_,?_,?_,?_,?_,?_,?_,?_,?_,?_,?_,?_,?_,?_⟩)
   all_goals first|omega|(refine bN.2 ?_;omega)
theorem l9 (w:World) (base p:Nat) (s:ByteArray) (at':Nat) (br sq:Bool) (v:Value) (ts:List Tok) (hs:s.size≤281474976710656) (cL:at'<s.size)
  (hz:qV w p s at' br sq v) (aL:w.ownsRow base 139 3 v ts.length (aP ts)) (hlen:ts.length≤1099511627776) (gW:base≤p):
  Calls prog 151 #[.pointer (some ⟨p,0,none⟩)] w (cD base p s at' br sq ts w (sJ (s.data.toList.drop at') br sq)):=by
 have c0:w.cell? ⟨p,0,none⟩=some (.string s):=by rw[hz.cell];rfl
 have c1:w.cell? ⟨p,1,none⟩=some (.int .i64 (at':Int)):=by rw[hz.cell];rfl
 have q1:((at':Int)≤(s.size:Int))=True:=by simp;omega
 obtain⟨t,ht⟩: ∃t,t=s.extract at' s.size:=⟨_,rfl⟩;have qU:t.data.toList=s.data.toList.drop at':=by rw[ht,gr]
 have Lu:t.size=s.size-at':=by rw[ht];simp
 have ht0:0<t.size:=by omega
 rw[←qU];have HZ:=aa hz;have HO:=aa aL;have HD:=aa qU;have HT:=aa ht;clear hz aL qU ht;go_enter func151,ntmps151;go_wp2_with fail;go_quiet (fail);rw[←HT.out];have ep:qV (w.drewN nq) p s at' br sq v:=aK.drewN HZ.out nq;have zT:(w.drewN nq).ownsRow base 139 3 v ts.length (aP ts):=HO.out;have aN:Below base w (w.drewN nq):=cr (aV base w) nq;generalize w.drewN nq=w2 at ep zT aN ⊢
 have d2:w2.cell? ⟨p,2,none⟩=some (.bool br):=by rw[ep.cell];rfl
 have d3:w2.cell? ⟨p,3,none⟩=some (.bool sq):=by rw[ep.cell];rfl
 have f2:w2.frozen? ⟨p,2,none⟩=false:=ep.frozen 2;have f3:w2.frozen? ⟨p,3,none⟩=false:=ep.frozen 3;have xL:(aq t.data.toList 0).toNat=t[0].toNat:=by rw[ar ht0]
 have jh:=aa ep;have kt:=aa zT;have bC:=aa aN;have HA:=aa xL;clear ep zT aN xL c0 c1;obtain⟨L,hL⟩: ∃L,L=t.data.toList.take 2:=⟨_,rfl⟩;have hD:(1<t.size∧Ie t.data.toList=S9.contains L)∨(¬1<t.size∧Ie t.data.toList=false):=by
  by_cases h1:1<t.size
  ·exact .inl ⟨h1,by rw[Ie,ab,dR h1,mC,hL]⟩
  ·exact .inr ⟨h1,by rw[Ie,ab,gA h1,rA]⟩
 have hLs:t.extract 0 2=⟨L.toArray⟩:=by rw[hL,←mk_data (t.extract 0 2),fG]
 have HL:=aa hLs;clear hL hLs;rcases hD with⟨h1,aeC⟩|⟨h1,vp⟩
 ·have L7:=aa aeC;clear aeC;go_upto_region 4 with fail
  rw[HL.out];rcases MW L with g0|⟨g0,g1⟩|⟨g0,g1,g2⟩|⟨g0,g1,g2,g3⟩|⟨g0,g1,g2,g3,g4⟩|⟨g0,g1,g2,g3,g4,g5⟩|⟨g0,g1,g2,g3,g4,g5⟩
  iterate 6
   ·have hR:sJ t.data.toList br sq= .tok 6 2 br sq:=Ym (by(first|rw[L7.out,cC.1 g5]|rw[L7.out,cC.1 g4]|rw[L7.out,cC.1 g3]|rw[L7.out,cC.1 g2]|rw[L7.out,cC.1 g1]|rw[L7.out,cC.1 g0]);rfl);have HR:=aa hR;clear hR;go_wp2_with fail;refine(eW w2 base p s at' 6 2 _ _ rfl rfl br sq v ts hs (by omega) (by omega) jh.out kt.out hlen gW).mono ?_;intro e w5 hp;have h0:=hp.1;subst h0;have HQ:=aa (cD.put (br:=br) (sq:=sq) HR.out bC.out hp);clear hp;go_wp2_with fail;go_ret;exact HQ.out
  have vp:Ie t.data.toList=false:=by
   rw[L7.out];exact Yq g0 g1 g2 g3 g4 g5
  have PQ:=aa vp;clear vp;go_upto_region 13 with fail
  rcases CG t[0].toNat with(hN|hN|hN|hN)|(hN|hN|hN|hN|hN|hN|hN|hN|hN|hN|hN|hN|hN|hN)|⟨aju,ajv,e91,e93,e40,e41,e44,tK,e61,e60,e62,e43,e45,e42,e47,e37,e94,e64,n123,n125,n91,n93,n40,n41,n44,n58,n61,n60,n62,n43,n45,n42,n47,n37,n94,n64⟩
  ·have hR:sJ t.data.toList br sq= .tok 6 1 true sq:=(iV PQ.out (HA.out.trans hN)).trans rfl;have fz:=aK.bT jh.out 2 (.bool true);have jU:qV (w2.setCell ⟨p,2,none⟩ (.bool true)) p s at' true sq v:=by simpa [qV]using fz
   have lv:=aD (i:=2) kt.out jh.out (by decide) (.bool true);have bW:=bC.out.setCell (p:=⟨p,2,none⟩) gW (.bool true);have xA:=aa jU;have pg:=aa lv;have iF:=aa bW;clear fz jU lv bW;have HR:=aa hR;clear hR;go_wp2_with fail;refine(eW _ base p s at' 6 1 _ _ rfl rfl true sq v ts hs (by omega) (by omega) xA.out pg.out hlen gW).mono ?_;intro e w5 hp;have h0:=hp.1;subst h0;have HQ:=aa (cD.put (br:=br) (sq:=sq) HR.out iF.out hp);clear hp;go_wp2_with fail;go_ret;exact HQ.out
  ·have hR:sJ t.data.toList br sq= .tok 6 1 false sq:=(iV PQ.out (HA.out.trans hN)).trans rfl;have fz:=aK.bT jh.out 2 (.bool false);have jU:qV (w2.setCell ⟨p,2,none⟩ (.bool false)) p s at' false sq v:=by simpa [qV]using fz
   have lv:=aD (i:=2) kt.out jh.out (by decide) (.bool false);have bW:=bC.out.setCell (p:=⟨p,2,none⟩) gW (.bool false);have xA:=aa jU;have pg:=aa lv;have iF:=aa bW;clear fz jU lv bW;have HR:=aa hR;clear hR;go_wp2_with fail;refine(eW _ base p s at' 6 1 _ _ rfl rfl false sq v ts hs (by omega) (by omega) xA.out pg.out hlen gW).mono ?_;intro e w5 hp;have h0:=hp.1;subst h0;have HQ:=aa (cD.put (br:=br) (sq:=sq) HR.out iF.out hp);clear hp;go_wp2_with fail;go_ret;exact HQ.out
  ·have hR:sJ t.data.toList br sq= .tok 6 1 br true:=(iV PQ.out (HA.out.trans hN)).trans rfl;have fz:=aK.bT jh.out 3 (.bool true);have jU:qV (w2.setCell ⟨p,3,none⟩ (.bool true)) p s at' br true v:=by simpa [qV]using fz
   have lv:=aD (i:=3) kt.out jh.out (by decide) (.bool true);have bW:=bC.out.setCell (p:=⟨p,3,none⟩) gW (.bool true);have xA:=aa jU;have pg:=aa lv;have iF:=aa bW;clear fz jU lv bW;have HR:=aa hR;clear hR;go_wp2_with fail;refine(eW _ base p s at' 6 1 _ _ rfl rfl br true v ts hs (by omega) (by omega) xA.out pg.out hlen gW).mono ?_;intro e w5 hp;have h0:=hp.1;subst h0;have HQ:=aa (cD.put (br:=br) (sq:=sq) HR.out iF.out hp);clear hp;go_wp2_with fail;go_ret;exact HQ.out
  ·have hR:sJ t.data.toList br sq= .tok 6 1 br false:=(iV PQ.out (HA.out.trans hN)).trans rfl;have fz:=aK.bT jh.out 3 (.bool false);have jU:qV (w2.setCell ⟨p,3,none⟩ (.bool false)) p s at' br false v:=by simpa [qV]using fz
   have lv:=aD (i:=3) kt.out jh.out (by decide) (.bool false);have bW:=bC.out.setCell (p:=⟨p,3,none⟩) gW (.bool false);have xA:=aa jU;have pg:=aa lv;have iF:=aa bW;clear fz jU lv bW;have HR:=aa hR;clear hR;go_wp2_with fail;refine(eW _ base p s at' 6 1 _ _ rfl rfl br false v ts hs (by omega) (by omega) xA.out pg.out hlen gW).mono ?_;intro e w5 hp;have h0:=hp.1;subst h0;have HQ:=aa (cD.put (br:=br) (sq:=sq) HR.out iF.out hp);clear hp;go_wp2_with fail;go_ret;exact HQ.out
  iterate 14
   ·have hR:sJ t.data.toList br sq= .tok 6 1 br sq:=(iV PQ.out (HA.out.trans hN)).trans rfl;have HR:=aa hR;clear hR;go_wp2_with fail;refine(eW w2 base p s at' 6 1 _ _ rfl rfl br sq v ts hs (by omega) (by omega) jh.out kt.out hlen gW).mono ?_;intro e w5 hp;have h0:=hp.1;subst h0;have HQ:=aa (cD.put (br:=br) (sq:=sq) HR.out bC.out hp);clear hp;go_wp2_with fail;go_ret;exact HQ.out
  ·have hR:sJ t.data.toList br sq= .bad 110:=by
    rw[iV PQ.out HA.out,af n123,af n125,af n91,af n93,af];simp[L5];omega
   have HR:=aa hR;clear hR n123 n125 n91 n93 n40 n41 n44 n58 n61 n60 n62 n43 n45 n42 n47 n37 n94 n64;go_wp2_with fail;go_ret;rw[HR.out];exact⟨rfl,v,jh.out,kt.out,bC.out⟩
 ·have PQ:=aa vp;clear vp;go_upto_region 13 with fail
  rcases CG t[0].toNat with(hN|hN|hN|hN)|(hN|hN|hN|hN|hN|hN|hN|hN|hN|hN|hN|hN|hN|hN)|⟨aju,ajv,e91,e93,e40,e41,e44,tK,e61,e60,e62,e43,e45,e42,e47,e37,e94,e64,n123,n125,n91,n93,n40,n41,n44,n58,n61,n60,n62,n43,n45,n42,n47,n37,n94,n64⟩
  ·have hR:sJ t.data.toList br sq= .tok 6 1 true sq:=(iV PQ.out (HA.out.trans hN)).trans rfl;have fz:=aK.bT jh.out 2 (.bool true);have jU:qV (w2.setCell ⟨p,2,none⟩ (.bool true)) p s at' true sq v:=by simpa [qV]using fz
   have lv:=aD (i:=2) kt.out jh.out (by decide) (.bool true);have bW:=bC.out.setCell (p:=⟨p,2,none⟩) gW (.bool true);have xA:=aa jU;have pg:=aa lv;have iF:=aa bW;clear fz jU lv bW;have HR:=aa hR;clear hR;go_wp2_with fail;refine(eW _ base p s at' 6 1 _ _ rfl rfl true sq v ts hs (by omega) (by omega) xA.out pg.out hlen gW).mono ?_;intro e w5 hp;have h0:=hp.1;subst h0;have HQ:=aa (cD.put (br:=br) (sq:=sq) HR.out iF.out hp);clear hp;go_wp2_with fail;go_ret;exact HQ.out
  ·have hR:sJ t.data.toList br sq= .tok 6 1 false sq:=(iV PQ.out (HA.out.trans hN)).trans rfl;have fz:=aK.bT jh.out 2 (.bool false);have jU:qV (w2.setCell ⟨p,2,none⟩ (.bool false)) p s at' false sq v:=by simpa [qV]using fz
   have lv:=aD (i:=2) kt.out jh.out (by decide) (.bool false);have bW:=bC.out.setCell (p:=⟨p,2,none⟩) gW (.bool false);have xA:=aa jU;have pg:=aa lv;have iF:=aa bW;clear fz jU lv bW;have HR:=aa hR;clear hR;go_wp2_with fail;refine(eW _ base p s at' 6 1 _ _ rfl rfl false sq v ts hs (by omega) (by omega) xA.out pg.out hlen gW).mono ?_;intro e w5 hp;have h0:=hp.1;subst h0;have HQ:=aa (cD.put (br:=br) (sq:=sq) HR.out iF.out hp);clear hp;go_wp2_with fail;go_ret;exact HQ.out
  ·have hR:sJ t.data.toList br sq= .tok 6 1 br true:=(iV PQ.out (HA.out.trans hN)).trans rfl;have fz:=aK.bT jh.out 3 (.bool true);have jU:qV (w2.setCell ⟨p,3,none⟩ (.bool true)) p s at' br true v:=by simpa [qV]using fz
   have lv:=aD (i:=3) kt.out jh.out (by decide) (.bool true);have bW:=bC.out.setCell (p:=⟨p,3,none⟩) gW (.bool true);have xA:=aa jU;have pg:=aa lv;have iF:=aa bW;clear fz jU lv bW;have HR:=aa hR;clear hR;go_wp2_with fail;refine(eW _ base p s at' 6 1 _ _ rfl rfl br true v ts hs (by omega) (by omega) xA.out pg.out hlen gW).mono ?_;intro e w5 hp;have h0:=hp.1;subst h0;have HQ:=aa (cD.put (br:=br) (sq:=sq) HR.out iF.out hp);clear hp;go_wp2_with fail;go_ret;exact HQ.out
  ·have hR:sJ t.data.toList br sq= .tok 6 1 br false:=(iV PQ.out (HA.out.trans hN)).trans rfl;have fz:=aK.bT jh.out 3 (.bool false);have jU:qV (w2.setCell ⟨p,3,none⟩ (.bool false)) p s at' br false v:=by simpa [qV]using fz
   have lv:=aD (i:=3) kt.out jh.out (by decide) (.bool false);have bW:=bC.out.setCell (p:=⟨p,3,none⟩) gW (.bool false);have xA:=aa jU;have pg:=aa lv;have iF:=aa bW;clear fz jU lv bW;have HR:=aa hR;clear hR;go_wp2_with fail;refine(eW _ base p s at' 6 1 _ _ rfl rfl br false v ts hs (by omega) (by omega) xA.out pg.out hlen gW).mono ?_;intro e w5 hp;have h0:=hp.1;subst h0;have HQ:=aa (cD.put (br:=br) (sq:=sq) HR.out iF.out hp);clear hp;go_wp2_with fail;go_ret;exact HQ.out
  iterate 14
   ·have hR:sJ t.data.toList br sq= .tok 6 1 br sq:=(iV PQ.out (HA.out.trans hN)).trans rfl;have HR:=aa hR;clear hR;go_wp2_with fail;refine(eW w2 base p s at' 6 1 _ _ rfl rfl br sq v ts hs (by omega) (by omega) jh.out kt.out hlen gW).mono ?_;intro e w5 hp;have h0:=hp.1;subst h0;have HQ:=aa (cD.put (br:=br) (sq:=sq) HR.out bC.out hp);clear hp;go_wp2_with fail;go_ret;exact HQ.out
  ·have hR:sJ t.data.toList br sq= .bad 110:=by
    rw[iV PQ.out HA.out,af n123,af n125,af n91,af n93,af];simp[L5];omega
   have HR:=aa hR;clear hR n123 n125 n91 n93 n40 n41 n44 n58 n61 n60 n62 n43 n45 n42 n47 n37 n94 n64;go_wp2_with fail;go_ret;rw[HR.out];exact⟨rfl,v,jh.out,kt.out,bC.out⟩
theorem cD.from {base p:Nat} {s:ByteArray} {at':Nat} {br sq:Bool} {ts:List Tok} {w w1 w':World} {r:A6} {e:Ending} (h:cD base p s at' br sq ts w1 r e w') (hb:Below base w w1):cD base p s at' br sq ts w r e w':=by
 cases r with
 |bad k=>
  obtain⟨h1,v,h2,h3,h4⟩:=h;exact⟨h1,v,h2,h3,hb.trans h4⟩
 |tok k n b q=>exact nA.from h hb
theorem cD.ret {r:A6} (h:cD base p s at' br sq ts w r e w'): ∃k:Nat,e= .returned (.int .i64 (k:Int)):=by
 cases r with
 |bad k=>exact⟨k,h.1⟩
 |tok k n b q=>exact⟨0,h.1⟩
theorem Gr (h1:((c.toNat:Int)==34)=false) (h2:((c.toNat:Int)==39)=false) (h3:((c.toNat:Int)==96)=false): ¬dD c=true:=by
 have n1:=pF (n:=34) (by omega) rfl h1;have n2:=pF (n:=39) (by omega) rfl h2;have n3:=pF (n:=96) (by omega) rfl h3;intro h;simp only[dD,tP,cC]at h;rcases h with(h|h)|h
 ·exact n1 h
 ·exact n2 h
 ·exact n3 h
theorem abQ (h:(c.toNat:Int)=34∨(c.toNat:Int)=39∨(c.toNat:Int)=96):dD c=true:=by
 simp only[dD,tP,cC];rcases h with h|h|h
 ·exact .inl (.inl (cM (n:=34) (by omega) (by omega)))
 ·exact .inl (.inr (cM (n:=39) (by omega) (by omega)))
 ·exact .inr (cM (n:=96) (by omega) (by omega))
theorem QQ {ok:List UInt8→Prop} (hT:pK ok T) (w:World) (base p:Nat) (s:ByteArray) (at':Nat) (br sq:Bool) (v:Value) (ts:List Tok) (hs:s.size≤281474976710) (cL:at'<s.size) (cJ:Tz ok (s.data.toList.drop at')) (kL:T base w)
  (hz:qV w p s at' br sq v) (aL:w.ownsRow base 139 3 v ts.length (aP ts)) (hlen:ts.length≤1099511627776) (gW:base≤p):
  Calls prog 134 #[.pointer (some ⟨p,0,none⟩)] w (cD base p s at' br sq ts w (bg (s.data.toList.drop at') br sq)):=by
 obtain⟨col,Gh⟩: ∃c,c=(!br&& !sq):=⟨_,rfl⟩;have H4:(br=false∧sq=false∧col=true)∨(br=false∧sq=true∧col=false)∨(br=true∧sq=false∧col=false)∨(br=true∧sq=true∧col=false):=by
  rw[Gh];cases br<;>cases sq<;>simp
 have HC:=aa Gh;clear Gh;have c0:w.cell? ⟨p,0,none⟩=some (.string s):=by rw[hz.cell];rfl
 have c1:w.cell? ⟨p,1,none⟩=some (.int .i64 (at':Int)):=by rw[hz.cell];rfl
 have q1:((at':Int)≤(s.size:Int))=True:=by simp;omega
 obtain⟨t,ht⟩: ∃t,t=s.extract at' s.size:=⟨_,rfl⟩;have qU:t.data.toList=s.data.toList.drop at':=by rw[ht,gr]
 have Lu:t.size=s.size-at':=by rw[ht];simp
 have ht0:0<t.size:=by omega
 have ax:=hz.lt;have HZ:=aa hz;have HO:=aa aL;have HD:=aa qU;have HT:=aa ht;have HW:=aa kL;have FW:=aa cJ;clear hz aL qU ht kL cJ;go_enter func134,ntmps134;go_wp2_with fail;go_quiet (fail);rw[←HT.out];have ep:qV (w.drewN nq) p s at' br sq v:=aK.drewN HZ.out nq;have zT:(w.drewN nq).ownsRow base 139 3 v ts.length (aP ts):=HO.out;have aN:Below base w (w.drewN nq):=cr (aV base w) nq;have SK:=hT.fY HW.out aN;generalize w.drewN nq=w2 at ep zT aN SK ⊢
 have d0:w2.cell? ⟨p,0,none⟩=some (.string s):=by rw[ep.cell];rfl
 have d1:w2.cell? ⟨p,1,none⟩=some (.int .i64 (at':Int)):=by rw[ep.cell];rfl
 have d2:w2.cell? ⟨p,2,none⟩=some (.bool br):=by rw[ep.cell];rfl
 have d3:w2.cell? ⟨p,3,none⟩=some (.bool sq):=by rw[ep.cell];rfl
 have xL:aq t.data.toList 0=t[0]:=ar ht0;have jh:=aa ep;have kt:=aa zT;have bC:=aa aN;have HA:=aa xL;have DI:=aa SK;have Xg:base≤w2.heap.size:=ju (pw gW ep.lt);clear ep zT aN xL c0 c1 SK;cases hl:letter t[0]
 ·rcases H4 with⟨hb,hq,rfl⟩|⟨hb,hq,rfl⟩|⟨hb,hq,rfl⟩|⟨hb,hq,rfl⟩
  all_goals
   cases tK:((t[0].toNat:Int)==58)
   ·cases hg:digit t[0]
    ·cases sK:((t[0].toNat:Int)==46)
     ·have qX: ¬(digit t[0]=true∨(t[0].toNat=46∧1<t.data.toList.length∧digit (aq t.data.toList 1)=true)):=by
       rintro(h|⟨h,_⟩)
       ·rw[hg]at h;simp at h
       ·have:=kJ sK;omega
      have LL:=aa qX;clear qX;by_cases hqt:(t[0].toNat:Int)=34∨(t[0].toNat:Int)=39∨(t[0].toNat:Int)=96
      ·have HQT:=aa (abQ hqt);have hqs:((t[0].toNat:Int)==34)=true∨(((t[0].toNat:Int)==34)=false∧((t[0].toNat:Int)==39)=true)∨(((t[0].toNat:Int)==34)=false∧((t[0].toNat:Int)==39)=false∧((t[0].toNat:Int)==96)=true):=by
        rcases hqt with q|q|q<;>rw[q]<;>decide
       clear hqt;rcases hqs with Wq|⟨Wq,Xh⟩|⟨Wq,Xh,Zr⟩
       all_goals
        have hR:bg t.data.toList br sq=tA t.data.toList br sq:=by
         rw[bg,HA.out,hl,af (by simp),af (by rintro⟨h,h'⟩;first|(have:=kJ tK;omega)|(have h2:=HC.out;rw[h']at h2;cases h2)),af LL.out,au HQT.out]
        have HR:=aa hR;clear hR;go_wp2_with (first|(go_at_call 118;refine(bD _ _).mono ?_;rintro e w' ⟨rfl,rfl⟩)|(go_at_call 135;refine(cA _ _).mono ?_;rintro e w' ⟨rfl,rfl⟩));go_quiet ((go_at_call 149;exact Calls.quiet_of_same ((nI s at' _ (by omega)).mono fun _ _ ⟨h1,h2⟩=>⟨h1,h2.symm⟩)));have jU:qV (w2.drewN nq) p s at' br sq v:=aK.drewN jh.out nq;have lv:(w2.drewN nq).ownsRow base 139 3 v ts.length (aP ts):=kt.out;have bW:Below base w (w2.drewN nq):=cr bC.out nq;have g0:(w2.drewN nq).cell? ⟨p,0,none⟩=some (.string s):=d0;have g1:(w2.drewN nq).cell? ⟨p,1,none⟩=some (.int .i64 (at':Int)):=d1;clear d0 d1 d2 d3;generalize w2.drewN nq=w3 at jU lv bW g0 g1 ⊢
        have hle:=zq s.data.toList at';rw[←HD.out]at hle;have xA:=aa jU;have pg:=aa lv;have iF:=aa bW;clear jU lv bW;cases he:bH t.data.toList 0 with
        |none=>
         rw[he]at hle;have hS:tA t.data.toList br sq= .bad 111:=by rw[tA,he]
         have HS:=aa hS;rw[hle];clear hS hle he;simp only[jT,nY,Option.map_none];go_wp2_with fail;go_ret;subst hb hq;rw[←HD.out,HR.out,HS.out];exact⟨rfl,v,xA.out,pg.out,iF.out⟩
        |some n=>
         rw[he]at hle;have hn:=yd he;rw[ab]at hn;have hxt:(s.extract at' (n+at')).data.toList=t.data.toList.take n:=by
          rw[Lib.extract_data,HD.out,show n+at'-at'=n by omega]
         have Zs:(s.extract at' (n+at')).size≤281474976710:=by simp;omega
         have r1:((at':Int)≤(n:Int)+(at':Int))=True:=by simp;omega
         have r2:((n:Int)+(at':Int)≤(s.size:Int))=True:=by simp;omega
         have r3:(0≤(n:Int)+(at':Int))=True:=by simp;omega
         have r4:((n:Int)+(at':Int)).toNat=n+at':=by omega
         have Xi:p<w3.heap.size:=xA.out.lt;have HLE:=aa he;have HXT:=aa hxt;rw[hle];clear hle he hxt;simp only[jT,nY,Option.map_some];go_wp2_with fail;go_region_held3 (fun w'=>w'.cell? ⟨p,0,none⟩=some (.string s)∧w'.cell? ⟨p,1,none⟩=some (.int .i64 (at':Int))) (first|go_keep) (first|(go_at_call 150;refine(Kt (s.extract at' (n+at')) _ Zs).mono ?_;rintro e w4 ⟨rfl,fg⟩;have k0:w4.cell? ⟨p,0,none⟩=some (.string s):=(fg.cell (p:=⟨p,0,none⟩) Xi).trans g0;have k1:w4.cell? ⟨p,1,none⟩=some (.int .i64 (at':Int)):=(fg.cell (p:=⟨p,1,none⟩) Xi).trans g1;have pb:=aa fg;clear fg));have fg:=((aV w3.heap.size w3).drew).trans pb.out;have fz:=xA.out.below fg;have DH:=eV pg.out fg;have nc:=iF.out.trans (fg.mono (ju (pw gW Xi)));have m1:w4.cell? ⟨p,1,none⟩=some (.int .i64 (at':Int)):=by rw[fz.cell];rfl
         have hS:tA t.data.toList br sq=if (lV (t.data.toList.take n)).1=0 then .tok 5 n br sq else .bad 111:=by rw[tA,HLE.out]
         rw[HD.out]at hS;obtain⟨uq,huq⟩: ∃uq,uq=(lV (List.take n (List.drop at' s.data.toList))).1:=⟨_,rfl⟩;rw[←huq]at hS ⊢
         have HS:=aa hS;have Lx:=aa fz;have PO:=aa DH;have pc:=aa nc;clear hS huq fz DH nc fg g0 g1;cases hu:((uq:Int) != 0)
         ·go_wp2_with fail;refine(eW w4 base p s at' 5 n _ _ rfl (by first|rfl|omega) br sq v ts (by omega) (by omega) (by omega) Lx.out PO.out hlen gW).mono ?_;intro e w5 hp;have h0:=hp.1;subst h0;have HQ:=aa (hp.from pc.out);clear hp;go_wp2_with fail;go_ret;subst hb hq;rw[←HD.out,HR.out,HD.out,HS.out,au (A7 hu)];exact HQ.out
         ·go_wp2_with fail;go_ret;subst hb hq;rw[←HD.out,HR.out,HD.out,HS.out,af (Ac hu)];exact⟨rfl,v,Lx.out,PO.out,pc.out⟩
      ·have Wq:((t[0].toNat:Int)==34)=false:=bN.2 (fun e=>hqt (.inl e));have Xh:((t[0].toNat:Int)==39)=false:=bN.2 (fun e=>hqt (.inr (.inl e)));have Zr:((t[0].toNat:Int)==96)=false:=bN.2 (fun e=>hqt (.inr (.inr e)));clear hqt;have HQF:=aa (Gr Wq Xh Zr);have hR:bg t.data.toList br sq=sJ t.data.toList br sq:=by
        rw[bg,HA.out,hl,af (by simp),af (by rintro⟨h,h'⟩;first|(have:=kJ tK;omega)|(have h2:=HC.out;rw[h']at h2;cases h2)),af LL.out,af HQF.out]
       have HR:=aa hR;clear hR;go_wp2_with (first|(go_at_call 118;refine(bD _ _).mono ?_;rintro e w' ⟨rfl,rfl⟩)|(go_at_call 135;refine(cA _ _).mono ?_;rintro e w' ⟨rfl,rfl⟩));refine(l9 w2 base p s at' br sq v ts (by omega) cL jh.out kt.out hlen gW).mono ?_;intro e w5 hp;obtain⟨k0,h0⟩:=cD.ret hp;subst h0;have HQ:=aa (hp.from bC.out);clear hp;go_wp2_with fail;go_ret;subst hb hq;rw[←HD.out,HR.out]
       first
        |exact HQ.out
        |(rw[HD.out];exact HQ.out)
     ·by_cases h1:1<t.size
      ·have ha1:aq t.data.toList 1=t[1]:=ar h1;cases nf:digit t[1]
       ·have qX: ¬(digit t[0]=true∨(t[0].toNat=46∧1<t.data.toList.length∧digit (aq t.data.toList 1)=true)):=by
         rintro(h|⟨_,_,h⟩)
         ·rw[hg]at h;simp at h
         ·rw[ha1,nf]at h;simp at h
        have LL:=aa qX;clear qX ha1;have Wq:((t[0].toNat:Int)==34)=false:=by have:=jx sK;rw[this];rfl
        have Xh:((t[0].toNat:Int)==39)=false:=by have:=jx sK;rw[this];rfl
        have Zr:((t[0].toNat:Int)==96)=false:=by have:=jx sK;rw[this];rfl
        have HQF:=aa (Gr Wq Xh Zr);have hR:bg t.data.toList br sq=sJ t.data.toList br sq:=by
         rw[bg,HA.out,hl,af (by simp),af (by rintro⟨h,h'⟩;first|(have:=kJ tK;omega)|(have h2:=HC.out;rw[h']at h2;cases h2)),af LL.out,af HQF.out]
        have HR:=aa hR;clear hR;go_wp2_with (first|(go_at_call 118;refine(bD _ _).mono ?_;rintro e w' ⟨rfl,rfl⟩)|(go_at_call 135;refine(cA _ _).mono ?_;rintro e w' ⟨rfl,rfl⟩));refine(l9 w2 base p s at' br sq v ts (by omega) cL jh.out kt.out hlen gW).mono ?_;intro e w5 hp;obtain⟨k0,h0⟩:=cD.ret hp;subst h0;have HQ:=aa (hp.from bC.out);clear hp;go_wp2_with fail;go_ret;subst hb hq;rw[←HD.out,HR.out]
        first
         |exact HQ.out
         |(rw[HD.out];exact HQ.out)
       ·have hw:t[0].toNat=46∧1<t.data.toList.length∧digit (aq t.data.toList 1)=true:=⟨by have:=jx sK;omega,by rw[ab];exact h1,by rw[ha1];exact nf⟩;have HNW:=aa hw;clear hw ha1;have hR:bg t.data.toList br sq=bI t.data.toList br sq:=by
         rw[bg,HA.out,hl,af (by simp),af (by rintro⟨h,h'⟩;first|(have:=kJ tK;omega)|(have h2:=HC.out;rw[h']at h2;cases h2)),au (.inr HNW.out)]
        have HR:=aa hR;clear hR;go_wp2_with (first|(go_at_call 118;refine(bD _ _).mono ?_;rintro e w' ⟨rfl,rfl⟩)|(go_at_call 135;refine(cA _ _).mono ?_;rintro e w' ⟨rfl,rfl⟩));refine(CF hT w2 base p s at' br sq v ts (by omega) cL (FW.out (by rw[←HD.out,AM,HA.out];exact(.inr HNW.out))) DI.out jh.out kt.out hlen gW).mono ?_;intro e w5 hp;obtain⟨k0,h0⟩:=cD.ret hp;subst h0;have HQ:=aa (hp.from bC.out);clear hp;go_wp2_with fail;go_ret;subst hb hq;rw[←HD.out,HR.out]
        first
         |exact HQ.out
         |(rw[HD.out];exact HQ.out)
      ·have qX: ¬(digit t[0]=true∨(t[0].toNat=46∧1<t.data.toList.length∧digit (aq t.data.toList 1)=true)):=by
        rintro(h|⟨_,h,_⟩)
        ·rw[hg]at h;simp at h
        ·rw[ab]at h;exact h1 h
       have LL:=aa qX;clear qX;have Wq:((t[0].toNat:Int)==34)=false:=by have:=jx sK;rw[this];rfl
       have Xh:((t[0].toNat:Int)==39)=false:=by have:=jx sK;rw[this];rfl
       have Zr:((t[0].toNat:Int)==96)=false:=by have:=jx sK;rw[this];rfl
       have HQF:=aa (Gr Wq Xh Zr);have hR:bg t.data.toList br sq=sJ t.data.toList br sq:=by
        rw[bg,HA.out,hl,af (by simp),af (by rintro⟨h,h'⟩;first|(have:=kJ tK;omega)|(have h2:=HC.out;rw[h']at h2;cases h2)),af LL.out,af HQF.out]
       have HR:=aa hR;clear hR;go_wp2_with (first|(go_at_call 118;refine(bD _ _).mono ?_;rintro e w' ⟨rfl,rfl⟩)|(go_at_call 135;refine(cA _ _).mono ?_;rintro e w' ⟨rfl,rfl⟩));refine(l9 w2 base p s at' br sq v ts (by omega) cL jh.out kt.out hlen gW).mono ?_;intro e w5 hp;obtain⟨k0,h0⟩:=cD.ret hp;subst h0;have HQ:=aa (hp.from bC.out);clear hp;go_wp2_with fail;go_ret;subst hb hq;rw[←HD.out,HR.out]
       first
        |exact HQ.out
        |(rw[HD.out];exact HQ.out)
    ·have hR:bg t.data.toList br sq=bI t.data.toList br sq:=by
      rw[bg,HA.out,hl,af (by simp),af (by rintro⟨h,h'⟩;first|(have:=kJ tK;omega)|(have h2:=HC.out;rw[h']at h2;cases h2)),au (.inl hg)]
     have HR:=aa hR;clear hR;go_wp2_with (first|(go_at_call 118;refine(bD _ _).mono ?_;rintro e w' ⟨rfl,rfl⟩)|(go_at_call 135;refine(cA _ _).mono ?_;rintro e w' ⟨rfl,rfl⟩));refine(CF hT w2 base p s at' br sq v ts (by omega) cL (FW.out (by rw[←HD.out,AM,HA.out];exact(.inl hg))) DI.out jh.out kt.out hlen gW).mono ?_;intro e w5 hp;obtain⟨k0,h0⟩:=cD.ret hp;subst h0;have HQ:=aa (hp.from bC.out);clear hp;go_wp2_with fail;go_ret;subst hb hq;rw[←HD.out,HR.out]
     first
      |exact HQ.out
      |(rw[HD.out];exact HQ.out)
   ·first
    |have hg:digit t[0]=false:=by have:=jx tK;simp[digit];omega
     have sK:((t[0].toNat:Int)==46)=false:=bN.2 (by have:=jx tK;omega);have qX: ¬(digit t[0]=true∨(t[0].toNat=46∧1<t.data.toList.length∧digit (aq t.data.toList 1)=true)):=by
      rintro(h|⟨h,_⟩)
      ·rw[hg]at h;simp at h
      ·have:=kJ sK;omega
     have LL:=aa qX;clear qX;have Wq:((t[0].toNat:Int)==34)=false:=bN.2 (by have:=jx tK;omega);have Xh:((t[0].toNat:Int)==39)=false:=bN.2 (by have:=jx tK;omega);have Zr:((t[0].toNat:Int)==96)=false:=bN.2 (by have:=jx tK;omega);have HQF:=aa (Gr Wq Xh Zr);have hR:bg t.data.toList br sq=sJ t.data.toList br sq:=by
      rw[bg,HA.out,hl,af (by simp),af (by rintro⟨h,h'⟩;first|(have:=kJ tK;omega)|(have h2:=HC.out;rw[h']at h2;cases h2)),af LL.out,af HQF.out]
     have HR:=aa hR;clear hR;go_wp2_with (first|(go_at_call 118;refine(bD _ _).mono ?_;rintro e w' ⟨rfl,rfl⟩)|(go_at_call 135;refine(cA _ _).mono ?_;rintro e w' ⟨rfl,rfl⟩));refine(l9 w2 base p s at' br sq v ts (by omega) cL jh.out kt.out hlen gW).mono ?_;intro e w5 hp;obtain⟨k0,h0⟩:=cD.ret hp;subst h0;have HQ:=aa (hp.from bC.out);clear hp;go_wp2_with fail;go_ret;subst hb hq;rw[←HD.out,HR.out]
     first
      |exact HQ.out
      |(rw[HD.out];exact HQ.out)
    |have AR:=aX (bu true) t.data.toList 1
     have hn:=bL (bu true) t.data.toList 1 (by rw[ab];omega);rw[ab]at hn;obtain⟨n,qX⟩: ∃n,n=ae (bu true) t.data.toList 1:=⟨_,rfl⟩;rw[←qX]at hn AR;have hR:bg t.data.toList br sq= .tok 2 n br sq:=by
      rw[bg,HA.out,hl,af (by simp),au ⟨by have:=jx tK;omega,HC.out.symm⟩,qX]
     have HR:=aa hR;have HN:=aa qX;clear hR qX;go_wp2_with (first|(go_at_call 118;refine(bD _ _).mono ?_;rintro e w' ⟨rfl,rfl⟩)|(go_at_call 135;refine(cA _ _).mono ?_;rintro e w' ⟨rfl,rfl⟩));refine(se t 1 true _ (by unfold maxLen;omega) (by decide)).mono ?_;rintro e w3 ⟨rfl,rfl⟩;rw[←HN.out];go_wp2_with fail;refine(eW w2 base p s at' 2 n _ _ rfl rfl br sq v ts (by omega) (by omega) (by omega) jh.out kt.out hlen gW).mono ?_;intro e w5 hp;have h0:=hp.1;subst h0;have HQ:=aa (hp.from bC.out);clear hp;go_wp2_with fail;go_ret;subst hb hq;rw[←HD.out,HR.out]
     first
      |exact HQ.out
      |(rw[HD.out];exact HQ.out)
 ·rcases H4 with⟨hb,hq,rfl⟩|⟨hb,hq,rfl⟩|⟨hb,hq,rfl⟩|⟨hb,hq,rfl⟩
  all_goals
   have hn:=bL (bu (!br&& !sq)) t.data.toList 0 (dQ _);rw[ab]at hn;obtain⟨n,qX⟩: ∃n,n=ae (bu (!br&& !sq)) t.data.toList 0:=⟨_,rfl⟩;rw[←qX]at hn;have hR:bg t.data.toList br sq= .tok (cg br (t.data.toList.take n)) n br sq:=by
    rw[bg,HA.out,au hl,qX]
   have HR:=aa hR;rw[←HC.out]at qX;have HN:=aa qX;clear hR qX;go_wp2_with (first|(go_at_call 118;refine(bD _ _).mono ?_;rintro e w' ⟨rfl,rfl⟩)|(go_at_call 135;refine(cA _ _).mono ?_;rintro e w' ⟨rfl,rfl⟩));refine(se t 0 _ _ (by unfold maxLen;omega) (by decide)).mono ?_;rintro e w3 ⟨rfl,rfl⟩;rw[←HN.out];go_wp2_with fail;refine(UO w2 base p s at' n _ rfl br sq v ts (by omega) (by omega) jh.out kt.out hlen gW).mono ?_;intro e w5 hp;have h0:=hp.1;subst h0;have HQ:=aa (hp.from bC.out);clear hp;go_wp2_with fail;go_ret;subst hb hq;rw[←HD.out,HR.out]
   first
    |exact HQ.out
    |(rw[HD.out];exact HQ.out)
def rM (w:World) (g o:Nat) (xs:List (Int×ByteArray×Int)):Prop:=
 g<w.heap.size∧ ∀j (h:j<xs.length),w.cell? ⟨g,o+j*3,none⟩=some (.int .i64 xs[j].1)∧w.cell? ⟨g,o+j*3+1,none⟩=some (.string xs[j].2.1)∧w.cell? ⟨g,o+j*3+2,none⟩=some (.int .i64 xs[j].2.2)
theorem Xj {k:IntKind} (h:a=b):Value.int k a=Value.int k b:=by rw[h]
