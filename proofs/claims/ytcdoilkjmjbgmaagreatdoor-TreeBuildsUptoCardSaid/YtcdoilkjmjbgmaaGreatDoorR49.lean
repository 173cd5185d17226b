import Derived.Test.YtcdoilkjmjbgmaaGreatDoorR48
import Derived.Test.YtcdoilkjmjbgmaaGreatDoorR07
/- Part of the proof of YtcdoilkjmjbgmaaGreatDoorCardR: NumE NumF. -/
set_option maxRecDepth 100000
set_option maxHeartbeats 4000000
set_option linter.unusedVariables false
set_option linter.unusedSimpArgs false
namespace Go.Proofs.YtcdoilkjmjbgmaaGreatDoor
open Go.RowKit
open Tryz
variable {l x:List UInt8} {i n:Nat} {w w':World}
def rQ (l:List UInt8):Nat:=
 if bK l≠0 then 0 else if dE l 105 110 102=true then 9218868437227405312 else if dE l 110 97 110=true then 9221120237041090561 else j0 l
theorem Wa (B:Nat) (s:ByteArray) (hs:s.size≤512) (h0:ag s.data.toList=s.data.toList.length) (bZ:s.data.toList≠[]) (hh:aR s.data.toList=false):uL B s (L4 s.data.toList):=by
 obtain⟨hm,⟨i0,tE,uy⟩,hex⟩:=mu h0 bZ hh;intro w hT;have iE:0<s.size:=by rw[←ab];exact Ez.2 bZ
 have hml:bO s.data.toList≤s.size:=by have:=hm.1;rwa [ab]at this
 have acn:digit s[0]=true∨s[0].toNat=46:=by
  rw[←ar iE];exact(hm.2 0 (by omega)).imp id And.left
 have lC: ∀h:2<s.size,((s[1].toNat|||32:Nat):Int)≠120:=by
  intro h;have:=(AL h0 bZ hh (by rw[ab];omega)).2;rw[ar (by omega)]at this;omega
 obtain⟨M,N,D,P,dt,dg,tr,hr⟩: ∃M N D P dt dg tr,fo s.data.toList (bO s.data.toList)=⟨M,N,D,P,dt,dg,tr⟩:=⟨_,_,_,_,_,_,_,rfl⟩;have cJ:=AK hm _ (aS _);rw[hr]at cJ;have hM:M<10000000000000000000:=by
  have h1:=cJ.fm;have h2:=cJ.tI.1;simp only at h1 h2;have h3:(10:Nat)^N≤10^19:=ek (by omega) h2;omega
 have heb: -100009≤gm s.data.toList∧gm s.data.toList≤100009:=by
  unfold gm;split
  ·rename_i ax;rcases hex with he|⟨_,he⟩
   ·omega
   ·have:=Gp (l:=s.data.toList) (j:=pJ s.data.toList) s.data.toList.length (by have:=he.some;omega) (aS _) fun i a b=>he.fk i a b
    split<;>omega
  ·omega
 have OT:=abG hm (by omega) heb;have IG: ∀(w:World) (B g:Nat),bz w g (fun _=>0) 0 0 false false→B≤g→Calls prog 212 #[.pointer (some ⟨g,0,none⟩),.string s] w fun e w'=>e= .returned (.bool true)∧eQ w' g (Io s.data.toList (bO s.data.toList) (gm s.data.toList)) false∧Below B w w':=by
  intro w B g SJ hB;refine Ze s w B g (bO s.data.toList) i0 (gm s.data.toList) (by omega) hm tE uy SJ hB ?_;rcases hex with he|⟨ax,he⟩
  ·exact .inl ⟨by rw[he,ab],by rw[gm,af (by omega)]⟩
  ·refine .inr ⟨_,_,he,?_⟩;rw[gm,au ax,ab]
 have hrf: ∀w,Calls prog 206 #[.string s] w fun e w'=>e= .returned (.tuple #[.int .u64 (M:Int),.int .i64 (oE (fo s.data.toList (bO s.data.toList)) (gm s.data.toList)),.bool false,.bool tr,.bool false,.int .i64 (s.size:Int),.bool true])∧w=w':=by
  intro w;rw[hr];rcases hex with he|⟨ax,he⟩
  ·have hE:gm s.data.toList=0:=by rw[gm,af (by omega)]
   rw[hE];have hmz:bO s.data.toList=s.size:=by rw[he,ab]
   rw[hmz]at hm tE hr;exact xn s w (by omega) s.size 0 (.inl ⟨rfl,rfl⟩) hm iE i0 tE uy lC M N D P dt dg tr hr
  ·have hE:gm s.data.toList=if xK s.data.toList=true then-((zR s.data.toList (pJ s.data.toList) s.size:Nat):Int)else((zR s.data.toList (pJ s.data.toList) s.size:Nat):Int):=by rw[gm,au ax,ab]
   rw[hE];exact xn s w (by omega) (bO s.data.toList) _ (.inr ⟨pJ s.data.toList,xK s.data.toList,he,rfl⟩) hm (by omega) i0 tE uy lC M N D P dt dg tr hr
 have:=Ln s w B iE acn M (oE (fo s.data.toList (bO s.data.toList)) (gm s.data.toList)) tr hM (Io s.data.toList (bO s.data.toList) (gm s.data.toList)) OT.1 hrf IG hT;have hv:L4 s.data.toList=DR M (oE (fo s.data.toList (bO s.data.toList)) (gm s.data.toList)) tr (Io s.data.toList (bO s.data.toList) (gm s.data.toList)):=by
  rw[L4,hr]
 rw[hv];exact this
theorem Ki (h:i<l.length):aq (l++x) i=aq l i:=by
 rw[aq,aq,lA,lA,Tv h]
theorem NZ (i:Nat):aq (l++x) (l.length+i)=aq x i:=by
 rw[aq,aq,lA,lA,IV (by omega),Nat.add_sub_cancel_left]
theorem Wb (h:2≤l.length):eJ (l++x) l.length=eJ l l.length:=by
 unfold eJ;rw[IT h,Bd (by simp)]
theorem Wc (B:Nat) (s t:ByteArray) (hs:s.size≤512) (ht:t.data.toList=s.data.toList++[112,48]) (h0:ag s.data.toList=s.data.toList.length) (hh:aR s.data.toList=true):uL B t (L3 s.data.toList):=by
 obtain⟨h3,hz,hx,cJ⟩:=sX h0 hh;intro w hT;rw[ab]at h3;have htz:t.size=s.size+2:=by rw[←ab,ht,iJ,ab];rfl
 have cL: ∀i,i<s.size→ ∀h:i<t.size,t[i]=aq s.data.toList i:=fun i hi h=>by
  rw[←ar h,ht,Ki (by rw[ab];exact hi)]
 have LF: ∀i,(h:s.size+i<t.size)→t[s.size+i]=aq [112,48] i:=fun i h=>by
  rw[←ar h,ht,←ab,NZ]
 obtain⟨M,N,D,tr,hr⟩: ∃M N D tr,eJ s.data.toList s.data.toList.length=⟨M,N,D,tr⟩:=⟨_,_,_,_,rfl⟩;have hrk:=GK cJ _ (by rw[ab];omega) (aS _);rw[hr]at hrk;have k1:=hrk.tI;have k2:=hrk.fm;simp only at k1 k2;rw[ab]at k1;have hM:M<18446744073709551616:=by
  have:(16:Nat)^N≤16^16:=ek (by omega) k1.1;omega
 have hX: -500≤lK M N D∧lK M N D≤10000:=by
  unfold lK;split<;>omega
 have akk:EK t.data.toList s.size:=by
  refine⟨by rw[ab];omega,fun i a b=>?_⟩;rw[ht,Ki (by rw[ab];exact b)];exact cJ.2 i a (by rw[ab];exact b)
 have c0:t[0].toNat=48:=by rw[cL 0 (by omega) (by omega)];exact hz
 have c1:(t[1].toNat|||32)=120:=by rw[cL 1 (by omega) (by omega)];exact O9 hx
 have hrt:eJ t.data.toList s.size=⟨M,N,D,tr⟩:=by
  rw[ht,←hr,←ab,Wb (by rw[ab];omega)]
 have hrf: ∀w,Calls prog 206 #[.string t] w fun e w'=>e= .returned (.tuple #[.int .u64 (M:Int),.int .i64 (lK M N D),.bool false,.bool tr,.bool true,.int .i64 (t.size:Int),.bool true])∧w=w':=
  fun w=>yw t w s.size (by omega) (by omega) (by omega) c0 c1 akk (by rw[show t[s.size]=aq [112,48] 0 from LF 0 (by omega)];rfl) (by rw[LF 1 (by omega)];rfl) htz M N D tr hrt
 have:=Lm t w B s.size (by omega) (.inl (by
  have:digit t[0]=true:=by rw[digit];simp[c0]
  exact this)) M (lK M N D) tr hM hX hrf hT
 have hv:L3 s.data.toList=(SH M (lK M N D) tr).1:=by rw[L3,hr,lK]
 rw[hv];exact this
theorem υ (l:List UInt8) (a b c:UInt8):tX l [a,b,c]=dE l a.toNat b.toNat c.toNat:=by
 unfold tX dE;rcases l with _|⟨x,_|⟨y,_|⟨z,_|⟨u,r⟩⟩⟩⟩
 ·rfl
 ·rfl
 ·rfl
 ·simp[aq,Bool.and_assoc]
 ·simp
def jG (w:World) (l:List UInt8) (e:Ending) (w':World):Prop:=e= .returned (.tuple #[.float .f64 (rQ l),.int .i64 (bK l:Nat)])∧Below w.heap.size w w'
theorem jG.mk' {x:Nat} (hx:rQ l=x) (hn:bK l=n) (hb:Below w.heap.size w w'):jG w l (.returned (.tuple #[.float .f64 x,.int .i64 (n:Int)])) w':=by
 subst hx;subst hn;exact⟨rfl,hb⟩
theorem Lo (h:512<l.length):bK l=1:=by rw[bK,au h]
theorem Oa (h: ¬512<l.length) (h1:dE l 105 110 102=true):bK l=0:=by rw[bK,af h,au (by rw[h1];rfl)]
theorem Ob (h: ¬512<l.length) (h1:dE l 110 97 110=true):bK l=0:=by rw[bK,af h,au (by rw[h1];simp)]
theorem De (h: ¬512<l.length) (h1:dE l 105 110 102=false) (h2:dE l 110 97 110=false) (h3:l=[]∨ag l≠l.length):bK l=20:=by
 rw[bK,af h,af (by rw[h1,h2];simp),au h3]
theorem Oc (h: ¬512<l.length) (h1:dE l 105 110 102=false) (h2:dE l 110 97 110=false) (h3: ¬(l=[]∨ag l≠l.length)):bK l=if vI l=true then 21 else 0:=by
 rw[bK,af h,af (by rw[h1,h2];simp),af h3]
theorem qj (h:bK l=n) (hn:n≠0):rQ l=0:=by rw[rQ,au (by rw[h];exact hn)]
theorem FP (h:bK l=0) (h1:dE l 105 110 102=false) (h2:dE l 110 97 110=false):rQ l=j0 l:=by
 rw[rQ,af (by rw[h];simp),af (by rw[h1];simp),af (by rw[h2];simp)]
theorem Wd (B:Nat) (s:ByteArray) (w:World) (hT:ja B w):Calls prog 160 #[.string s] w (jG w s.data.toList):=by
 have HT:=aa hT;clear hT;by_cases hl:512<s.size
 ·have q1:((512:Int)<(s.size:Int))=True:=aA (by omega);have HN:=aa (Lo (l:=s.data.toList) (by rw[ab];exact hl));go_enter func160,ntmps160;go_wp2_with fail;go_ret2;exact jG.mk' (qj HN (by omega)) HN (aV _ _)
 have q1:((512:Int)<(s.size:Int))=False:=bU (by omega);have HL:Hid (¬512<s.data.toList.length):=aa (by rw[ab];omega);go_enter func160,ntmps160;go_wp2_with fail;refine(J8 s ⟨#[105,110,102]⟩ _ (by omega) (by decide)).mono ?_;rintro e w1 ⟨rfl,aW⟩;have cn:=aa aW;clear aW;rcases IW (dE s.data.toList 105 110 102)with h1|h1
 all_goals rw[show tX s.data.toList (⟨#[105,110,102]⟩:ByteArray).data.toList=_ from(υ s.data.toList 105 110 102).trans h1]
 next=>
  have HI:=aa h1;have HN:=aa (Oa HL h1);clear h1;go_wp2_with fail;refine(Vo _).mono ?_;rintro e w2 ⟨rfl,rfl⟩;go_wp2_with fail;go_ret2;exact jG.mk' (by rw[rQ,af (by rw[HN.out];simp),au HI.out]) HN cn
 have HI:=aa h1;clear h1;go_wp2_with fail;refine(J8 s ⟨#[110,97,110]⟩ _ (by omega) (by decide)).mono ?_;rintro e w2 ⟨rfl,aN⟩;have bC:=aa (cn.trans (aN.mono cn.size));clear aN;rcases IW (dE s.data.toList 110 97 110)with h2|h2
 all_goals rw[show tX s.data.toList (⟨#[110,97,110]⟩:ByteArray).data.toList=_ from(υ s.data.toList 110 97 110).trans h2]
 next=>
  have HJ:=aa h2;have HN:=aa (Ob HL h2);clear h2;go_wp2_with fail;refine(Vp _).mono ?_;rintro e w3 ⟨rfl,rfl⟩;go_wp2_with fail;go_ret2;exact jG.mk' (by rw[rQ,af (by rw[HN.out];simp),af (by rw[HI.out];simp),au HJ.out]) HN bC
 have HJ:=aa h2;clear h2;by_cases he:s.data.toList=[]
 ·have z1:(s.toList=[])=True:=aA (by rw[nS];exact he);have HN:=aa (De HL HI HJ (.inl he));clear he;go_wp2_with fail;go_ret2;exact jG.mk' (qj HN (by omega)) HN bC
 have z1:(s.toList=[])=False:=bU (by rw[nS];exact he);have z2:s.toList.isEmpty=false:=by rw[nS];simpa using he
 have HE:=aa he;clear he;go_wp2_with fail;refine(Cx s _ (by omega)).mono ?_;rintro e w3 ⟨rfl,rfl⟩;by_cases hp:ag s.data.toList≠s.data.toList.length
 ·have q3:((ag s.data.toList:Int) != (s.size:Int))=true:=by rw[ab]at hp;rw[jA];omega
  have HN:=aa (De HL HI HJ (.inr hp));clear hp;go_wp2_with fail;go_ret2;exact jG.mk' (qj HN (by omega)) HN bC
 rw[ne_eq,Decidable.not_not]at hp;have q3:((ag s.data.toList:Int) != (s.size:Int))=false:=by rw[hp,ab];simp
 have HP:=aa hp;clear hp;go_wp2_with fail;refine(R8 s _ (by omega)).mono ?_;rintro e w3 ⟨⟨v,rfl,hv⟩,bW⟩;have LL:=aa (Oc HL HI HJ (by rw[not_or];exact⟨HE,fun h=>h HP⟩));have iF:=aa (bC.trans (bW.mono bC.size));have HV:=aa hv;clear bW hv;rcases IW (ic s.data.toList)with po|po
 all_goals rw[po]
 next=>
  have tl:bK s.data.toList=0:=by rw[LL.out,vI,po];rfl
  have HN:=aa tl;have HR:=aa ((FP tl HI HJ).trans (show j0 s.data.toList=xT s.data.toList by rw[j0,au po]));have xB:=aa po;clear tl po;go_wp2_with fail;go_ret2;exact jG.mk' (by rw[HR.out];exact(HV xB).symm) HN iF
 have xB:=aa po;clear po HV;cases hh:aR s.data.toList
 case' false=>
  have hx:1<s.size→ux (aq s.data.toList 1)=false∧((aq s.data.toList 1).toNat|||32)≠120:=fun h=>AL HP HE hh (by rw[ab];exact h)
  have hxf:ux (aq s.data.toList 1)=false:=by
   rcases dF 1 s.size with h|h
   ·exact(hx h).1
   ·have:aq s.data.toList 1=0:=by rw[aq,lA,Ew (by rw[ab];exact h)];rfl
    rw[this];rfl
  have HA:Hid (uL B s (j0 s.data.toList)):=aa (by rw[show j0 s.data.toList=L4 s.data.toList by rw[j0,af (by rw[xB.out];simp),af (by rw[hxf];simp)]];exact Wa B s (by omega) HP HE hh);have hc:((1:Int)<(s.size:Int))=False∨ ∃h:1<s.size,((1:Int)<(s.size:Int))=True∧(bits .or .u8 ((s[1].toNat:Nat):Int) 32==120)=false:=by
   rcases dF 1 s.size with h|h
   ·right;refine⟨h,aA (by omega),?_⟩;have:=(hx h).2;rw[ar h]at this;rw[show bits .or .u8 ((s[1].toNat:Nat):Int) 32=((s[1].toNat|||32:Nat):Int)from vY s[1].toNat 32 (uG _) (by omega)];exact bN.2 (by omega)
   ·exact .inl (bU (by omega))
  clear hh hxf hx;rcases hc with q4|⟨hc,q4,ho⟩
  all_goals go_wp2_with fail
 case' true=>
  obtain⟨t,ht⟩: ∃t:ByteArray,t=s++⟨#[112,48]⟩:=⟨_,rfl⟩;obtain⟨k3,kz,kx,kok⟩:=sX HP hh;rw[ab]at k3;have qU:t.data.toList=s.data.toList++[112,48]:=by rw[ht];simp
  have htz:t.size=s.size+2:=by rw[←ab,qU,iJ,ab];rfl
  have HA:Hid (uL B t (j0 s.data.toList)):=aa (by rw[show j0 s.data.toList=L3 s.data.toList by rw[j0,af (by rw[xB.out];simp),au kx]];exact Wc B s t (by omega) qU HP hh);have ho:(bits .or .u8 ((s[1].toNat:Nat):Int) 32==120)=true:=by
   have:=O9 kx;rw[ar (by omega)]at this;rw[show bits .or .u8 ((s[1].toNat:Nat):Int) 32=((s[1].toNat|||32:Nat):Int)from vY s[1].toNat 32 (uG _) (by omega),this];rfl
  have S6:=aa ht;clear kz kx kok hh qU ht;have q4:((1:Int)<(s.size:Int))=True:=aA (by omega);go_wp2_with fail;rw[←S6.out]
 all_goals
  refine(V8 (by omega) HA _ (HT.fY (iF.mono HT.size))).mono ?_;rintro e w4 ⟨⟨u,rfl⟩,fg⟩;have pb:=aa (iF.trans (fg.mono iF.size));clear fg;go_wp2_with fail;refine(Ny _ _).mono ?_;rintro e w5 ⟨rfl,rfl⟩;cases hi:dU (j0 s.data.toList)
  ·have tl:bK s.data.toList=0:=by rw[LL.out,vI,xB.out,hi];rfl
   have HN:=aa tl;have HR:=aa (FP tl HI HJ);clear tl;go_wp2_with fail;go_ret2;exact jG.mk' HR HN pb
  ·have tl:bK s.data.toList=21:=by rw[LL.out,vI,xB.out,hi];rfl
   have HN:=aa tl;clear tl;go_wp2_with fail;go_ret2;exact jG.mk' (qj HN (by omega)) HN pb
def PC (B:Nat) (w:World):Prop:= ∃B0,B0≤B∧ja B0 w
theorem akl:pK (fun _=>True) PC:=
 ⟨fun⟨B0,h1,h2⟩ hb=>⟨B0,h1,h2.fY (hb.mono h1)⟩,fun⟨B0,h1,h2⟩ hB=>⟨B0,bP h1 hB,h2⟩,fun s _ w _ ⟨B0,_,h2⟩ _ _=>(Wd B0 s w h2).mono fun _ _ ⟨h1,h3⟩=>⟨⟨_,h1⟩,h3⟩⟩
