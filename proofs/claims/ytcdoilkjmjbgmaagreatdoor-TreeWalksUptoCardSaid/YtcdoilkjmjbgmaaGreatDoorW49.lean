import Derived.Test.YtcdoilkjmjbgmaaGreatDoorW48
import Derived.Test.YtcdoilkjmjbgmaaGreatDoorW06
/- Part of the proof of YtcdoilkjmjbgmaaGreatDoorCardX: NumE NumF. -/
set_option maxRecDepth 100000
set_option maxHeartbeats 4000000
set_option linter.unusedVariables false
set_option linter.unusedSimpArgs false
namespace Go.Proofs.YtcdoilkjmjbgmaaGreatDoor
open Go.RowKit
open Go.Proofs.Tryz
variable {l x:List UInt8} {i n:Nat} {w w':World}
def rK (l:List UInt8):Nat:=
 if bH l≠0 then 0 else if dC l 105 110 102=true then 9218868437227405312 else if dC l 110 97 110=true then 9221120237041090561 else jS l
theorem Wo (B:Nat) (s:ByteArray) (hs:s.size≤512) (h0:ag s.data.toList=s.data.toList.length) (bC:s.data.toList≠[]) (hh:aO s.data.toList=false):uy B s (LL s.data.toList):=by
 obtain⟨hm,⟨i0,ti,ua⟩,hex⟩:=mf h0 bC hh;intro w hT;have jf:0<s.size:=by rw[←ab];exact Es.2 bC
 have hml:bJ s.data.toList≤s.size:=by have:=hm.1;rwa [ab]at this
 have acW:digit s[0]=true∨s[0].toNat=46:=by
  rw[←aq jf];exact(hm.2 0 (by omega)).imp id And.left
 have lg: ∀h:2<s.size,((s[1].toNat|||32:Nat):Int)≠120:=by
  intro h;have:=(AB h0 bC hh (by rw[ab];omega)).2;rw[aq (by omega)]at this;omega
 obtain⟨M,N,D,P,dt,dg,tr,hr⟩: ∃M N D P dt dg tr,fh s.data.toList (bJ s.data.toList)=⟨M,N,D,P,dt,dg,tr⟩:=⟨_,_,_,_,_,_,_,rfl⟩;have cC:=AA hm _ (aP _);rw[hr]at cC;have hM:M<10000000000000000000:=by
  have h1:=cC.fg;have h2:=cC.tu.1;simp only at h1 h2;have h3:(10:Nat)^N≤10^19:=ee (by omega) h2;omega
 have heb: -100009≤fV s.data.toList∧fV s.data.toList≤100009:=by
  unfold fV;split
  ·rename_i au;rcases hex with he|⟨_,he⟩
   ·omega
   ·have:=Gd (l:=s.data.toList) (j:=pS s.data.toList) s.data.toList.length (by have:=he.some;omega) (aP _) fun i a b=>he.fe i a b
    split<;>omega
  ·omega
 have OG:=aca hm (by omega) heb;have Is: ∀(w:World) (B g:Nat),bh w g (fun _=>0) 0 0 false false→B≤g→Calls prog 212 #[.pointer (some ⟨g,0,none⟩),.string s] w fun e w'=>e= .returned (.bool true)∧eK w' g (H9 s.data.toList (bJ s.data.toList) (fV s.data.toList)) false∧Below B w w':=by
  intro w B g SQ hB;refine ZD s w B g (bJ s.data.toList) i0 (fV s.data.toList) (by omega) hm ti ua SQ hB ?_;rcases hex with he|⟨au,he⟩
  ·exact .inl ⟨by rw[he,ab],by rw[fV,af (by omega)]⟩
  ·refine .inr ⟨_,_,he,?_⟩;rw[fV,ar au,ab]
 have hrf: ∀w,Calls prog 206 #[.string s] w fun e w'=>e= .returned (.tuple #[.int .u64 (M:Int),.int .i64 (oQ (fh s.data.toList (bJ s.data.toList)) (fV s.data.toList)),.bool false,.bool tr,.bool false,.int .i64 (s.size:Int),.bool true])∧w=w':=by
  intro w;rw[hr];rcases hex with he|⟨au,he⟩
  ·have hE:fV s.data.toList=0:=by rw[fV,af (by omega)]
   rw[hE];have hmz:bJ s.data.toList=s.size:=by rw[he,ab]
   rw[hmz]at hm ti hr;exact wY s w (by omega) s.size 0 (.inl ⟨rfl,rfl⟩) hm jf i0 ti ua lg M N D P dt dg tr hr
  ·have hE:fV s.data.toList=if xw s.data.toList=true then-((zK s.data.toList (pS s.data.toList) s.size:Nat):Int)else((zK s.data.toList (pS s.data.toList) s.size:Nat):Int):=by rw[fV,ar au,ab]
   rw[hE];exact wY s w (by omega) (bJ s.data.toList) _ (.inr ⟨pS s.data.toList,xw s.data.toList,he,rfl⟩) hm (by omega) i0 ti ua lg M N D P dt dg tr hr
 have:=K6 s w B jf acW M (oQ (fh s.data.toList (bJ s.data.toList)) (fV s.data.toList)) tr hM (H9 s.data.toList (bJ s.data.toList) (fV s.data.toList)) OG.1 hrf Is hT;have hv:LL s.data.toList=DH M (oQ (fh s.data.toList (bJ s.data.toList)) (fV s.data.toList)) tr (H9 s.data.toList (bJ s.data.toList) (fV s.data.toList)):=by
  rw[LL,hr]
 rw[hv];exact this
theorem JZ (h:i<l.length):an (l++x) i=an l i:=by
 rw[an,an,lf,lf,TB h]
theorem NO (i:Nat):an (l++x) (l.length+i)=an x i:=by
 rw[an,an,lf,lf,A5 (by omega),Nat.add_sub_cancel_left]
theorem Wp (h:2≤l.length):eG (l++x) l.length=eG l l.length:=by
 unfold eG;rw[IC h,A4 (by simp)]
theorem Wq (B:Nat) (s t:ByteArray) (hs:s.size≤512) (ht:t.data.toList=s.data.toList++[112,48]) (h0:ag s.data.toList=s.data.toList.length) (hh:aO s.data.toList=true):uy B t (LK s.data.toList):=by
 obtain⟨h3,hz,hx,cC⟩:=sI h0 hh;intro w hT;rw[ab]at h3;have htz:t.size=s.size+2:=by rw[←ab,ht,fT,ab];rfl
 have cB: ∀i,i<s.size→ ∀h:i<t.size,t[i]=an s.data.toList i:=fun i hi h=>by
  rw[←aq h,ht,JZ (by rw[ab];exact hi)]
 have Lm: ∀i,(h:s.size+i<t.size)→t[s.size+i]=an [112,48] i:=fun i h=>by
  rw[←aq h,ht,←ab,NO]
 obtain⟨M,N,D,tr,hr⟩: ∃M N D tr,eG s.data.toList s.data.toList.length=⟨M,N,D,tr⟩:=⟨_,_,_,_,rfl⟩;have hrk:=Gx cC _ (by rw[ab];omega) (aP _);rw[hr]at hrk;have k1:=hrk.tu;have k2:=hrk.fg;simp only at k1 k2;rw[ab]at k1;have hM:M<18446744073709551616:=by
  have:(16:Nat)^N≤16^16:=ee (by omega) k1.1;omega
 have hX: -500≤lv M N D∧lv M N D≤10000:=by
  unfold lv;split<;>omega
 have als:EE t.data.toList s.size:=by
  refine⟨by rw[ab];omega,fun i a b=>?_⟩;rw[ht,JZ (by rw[ab];exact b)];exact cC.2 i a (by rw[ab];exact b)
 have c0:t[0].toNat=48:=by rw[cB 0 (by omega) (by omega)];exact hz
 have c1:(t[1].toNat|||32)=120:=by rw[cB 1 (by omega) (by omega)];exact OY hx
 have hrt:eG t.data.toList s.size=⟨M,N,D,tr⟩:=by
  rw[ht,←hr,←ab,Wp (by rw[ab];omega)]
 have hrf: ∀w,Calls prog 206 #[.string t] w fun e w'=>e= .returned (.tuple #[.int .u64 (M:Int),.int .i64 (lv M N D),.bool false,.bool tr,.bool true,.int .i64 (t.size:Int),.bool true])∧w=w':=
  fun w=>yk t w s.size (by omega) (by omega) (by omega) c0 c1 als (by rw[show t[s.size]=an [112,48] 0 from Lm 0 (by omega)];rfl) (by rw[Lm 1 (by omega)];rfl) htz M N D tr hrt
 have:=K5 t w B s.size (by omega) (.inl (by
  have:digit t[0]=true:=by rw[digit];simp[c0]
  exact this)) M (lv M N D) tr hM hX hrf hT
 have hv:LK s.data.toList=(SP M (lv M N D) tr).1:=by rw[LK,hr,lv]
 rw[hv];exact this
theorem aag (l:List UInt8) (a b c:UInt8):tK l [a,b,c]=dC l a.toNat b.toNat c.toNat:=by
 unfold tK dC;rcases l with _|⟨x,_|⟨y,_|⟨z,_|⟨u,r⟩⟩⟩⟩
 ·rfl
 ·rfl
 ·rfl
 ·simp[an,Bool.and_assoc]
 ·simp
def jA (w:World) (l:List UInt8) (e:Ending) (w':World):Prop:=e= .returned (.tuple #[.float .f64 (rK l),.int .i64 (bH l:Nat)])∧Below w.heap.size w w'
theorem jA.mk' {x:Nat} (hx:rK l=x) (hn:bH l=n) (hb:Below w.heap.size w w'):jA w l (.returned (.tuple #[.float .f64 x,.int .i64 (n:Int)])) w':=by
 subst hx;subst hn;exact⟨rfl,hb⟩
theorem K7 (h:512<l.length):bH l=1:=by rw[bH,ar h]
theorem NP (h: ¬512<l.length) (h1:dC l 105 110 102=true):bH l=0:=by rw[bH,af h,ar (by rw[h1];rfl)]
theorem NQ (h: ¬512<l.length) (h1:dC l 110 97 110=true):bH l=0:=by rw[bH,af h,ar (by rw[h1];simp)]
theorem CM (h: ¬512<l.length) (h1:dC l 105 110 102=false) (h2:dC l 110 97 110=false) (h3:l=[]∨ag l≠l.length):bH l=20:=by
 rw[bH,af h,af (by rw[h1,h2];simp),ar h3]
theorem NR (h: ¬512<l.length) (h1:dC l 105 110 102=false) (h2:dC l 110 97 110=false) (h3: ¬(l=[]∨ag l≠l.length)):bH l=if vf l=true then 21 else 0:=by
 rw[bH,af h,af (by rw[h1,h2];simp),af h3]
theorem qt (h:bH l=n) (hn:n≠0):rK l=0:=by rw[rK,ar (by rw[h];exact hn)]
theorem FF (h:bH l=0) (h1:dC l 105 110 102=false) (h2:dC l 110 97 110=false):rK l=jS l:=by
 rw[rK,af (by rw[h];simp),af (by rw[h1];simp),af (by rw[h2];simp)]
theorem Wr (B:Nat) (s:ByteArray) (w:World) (hT:iZ B w):Calls prog 160 #[.string s] w (jA w s.data.toList):=by
 have HT:=aa hT;clear hT;by_cases hl:512<s.size
 ·have q1:((512:Int)<(s.size:Int))=True:=az (by omega);have HN:=aa (K7 (l:=s.data.toList) (by rw[ab];exact hl));go_enter func160,ntmps160;go_wp2_with fail;go_ret2;exact jA.mk' (qt HN (by omega)) HN (aS _ _)
 have q1:((512:Int)<(s.size:Int))=False:=bL (by omega);have HL:Hid (¬512<s.data.toList.length):=aa (by rw[ab];omega);go_enter func160,ntmps160;go_wp2_with fail;refine(JP s ⟨#[105,110,102]⟩ _ (by omega) (by decide)).mono ?_;rintro e w1 ⟨rfl,aU⟩;have bZ:=aa aU;clear aU;rcases IE (dC s.data.toList 105 110 102)with h1|h1
 all_goals rw[show tK s.data.toList (⟨#[105,110,102]⟩:ByteArray).data.toList=_ from(aag s.data.toList 105 110 102).trans h1]
 next=>
  have HI:=aa h1;have HN:=aa (NP HL h1);clear h1;go_wp2_with fail;refine(VA _).mono ?_;rintro e w2 ⟨rfl,rfl⟩;go_wp2_with fail;go_ret2;exact jA.mk' (by rw[rK,af (by rw[HN.out];simp),ar HI.out]) HN bZ
 have HI:=aa h1;clear h1;go_wp2_with fail;refine(JP s ⟨#[110,97,110]⟩ _ (by omega) (by decide)).mono ?_;rintro e w2 ⟨rfl,aM⟩;have bD:=aa (bZ.trans (aM.mono bZ.size));clear aM;rcases IE (dC s.data.toList 110 97 110)with h2|h2
 all_goals rw[show tK s.data.toList (⟨#[110,97,110]⟩:ByteArray).data.toList=_ from(aag s.data.toList 110 97 110).trans h2]
 next=>
  have HJ:=aa h2;have HN:=aa (NQ HL h2);clear h2;go_wp2_with fail;refine(VB _).mono ?_;rintro e w3 ⟨rfl,rfl⟩;go_wp2_with fail;go_ret2;exact jA.mk' (by rw[rK,af (by rw[HN.out];simp),af (by rw[HI.out];simp),ar HJ.out]) HN bD
 have HJ:=aa h2;clear h2;by_cases he:s.data.toList=[]
 ·have z1:(s.toList=[])=True:=az (by rw[nW];exact he);have HN:=aa (CM HL HI HJ (.inl he));clear he;go_wp2_with fail;go_ret2;exact jA.mk' (qt HN (by omega)) HN bD
 have z1:(s.toList=[])=False:=bL (by rw[nW];exact he);have z2:s.toList.isEmpty=false:=by rw[nW];simpa using he
 have HE:=aa he;clear he;go_wp2_with fail;refine(Cf s _ (by omega)).mono ?_;rintro e w3 ⟨rfl,rfl⟩;by_cases hp:ag s.data.toList≠s.data.toList.length
 ·have q3:((ag s.data.toList:Int) != (s.size:Int))=true:=by rw[ab]at hp;rw[ju];omega
  have HN:=aa (CM HL HI HJ (.inr hp));clear hp;go_wp2_with fail;go_ret2;exact jA.mk' (qt HN (by omega)) HN bD
 rw[ne_eq,Decidable.not_not]at hp;have q3:((ag s.data.toList:Int) != (s.size:Int))=false:=by rw[hp,ab];simp
 have HP:=aa hp;clear hp;go_wp2_with fail;refine(R5 s _ (by omega)).mono ?_;rintro e w3 ⟨⟨v,rfl,hv⟩,cr⟩;have Lt:=aa (NR HL HI HJ (by rw[not_or];exact⟨HE,fun h=>h HP⟩));have iR:=aa (bD.trans (cr.mono bD.size));have HV:=aa hv;clear cr hv;rcases IE (gX s.data.toList)with pG|pG
 all_goals rw[pG]
 next=>
  have sZ:bH s.data.toList=0:=by rw[Lt.out,vf,pG];rfl
  have HN:=aa sZ;have HR:=aa ((FF sZ HI HJ).trans (show jS s.data.toList=xF s.data.toList by rw[jS,ar pG]));have xb:=aa pG;clear sZ pG;go_wp2_with fail;go_ret2;exact jA.mk' (by rw[HR.out];exact(HV xb).symm) HN iR
 have xb:=aa pG;clear pG HV;cases hh:aO s.data.toList
 case' false=>
  have hx:1<s.size→tZ (an s.data.toList 1)=false∧((an s.data.toList 1).toNat|||32)≠120:=fun h=>AB HP HE hh (by rw[ab];exact h)
  have hxf:tZ (an s.data.toList 1)=false:=by
   rcases dD 1 s.size with h|h
   ·exact(hx h).1
   ·have:an s.data.toList 1=0:=by rw[an,lf,En (by rw[ab];exact h)];rfl
    rw[this];rfl
  have HA:Hid (uy B s (jS s.data.toList)):=aa (by rw[show jS s.data.toList=LL s.data.toList by rw[jS,af (by rw[xb.out];simp),af (by rw[hxf];simp)]];exact Wo B s (by omega) HP HE hh);have hc:((1:Int)<(s.size:Int))=False∨ ∃h:1<s.size,((1:Int)<(s.size:Int))=True∧(bits .or .u8 ((s[1].toNat:Nat):Int) 32==120)=false:=by
   rcases dD 1 s.size with h|h
   ·right;refine⟨h,az (by omega),?_⟩;have:=(hx h).2;rw[aq h]at this;rw[show bits .or .u8 ((s[1].toNat:Nat):Int) 32=((s[1].toNat|||32:Nat):Int)from vG s[1].toNat 32 (mz _) (by omega)];exact bK.2 (by omega)
   ·exact .inl (bL (by omega))
  clear hh hxf hx;rcases hc with q4|⟨hc,q4,ho⟩
  all_goals go_wp2_with fail
 case' true=>
  obtain⟨t,ht⟩: ∃t:ByteArray,t=s++⟨#[112,48]⟩:=⟨_,rfl⟩;obtain⟨k3,kz,kx,kok⟩:=sI HP hh;rw[ab]at k3;have qX:t.data.toList=s.data.toList++[112,48]:=by rw[ht];simp
  have htz:t.size=s.size+2:=by rw[←ab,qX,fT,ab];rfl
  have HA:Hid (uy B t (jS s.data.toList)):=aa (by rw[show jS s.data.toList=LK s.data.toList by rw[jS,af (by rw[xb.out];simp),ar kx]];exact Wq B s t (by omega) qX HP hh);have ho:(bits .or .u8 ((s[1].toNat:Nat):Int) 32==120)=true:=by
   have:=OY kx;rw[aq (by omega)]at this;rw[show bits .or .u8 ((s[1].toNat:Nat):Int) 32=((s[1].toNat|||32:Nat):Int)from vG s[1].toNat 32 (mz _) (by omega),this];rfl
  have Tc:=aa ht;clear kz kx kok hh qX ht;have q4:((1:Int)<(s.size:Int))=True:=az (by omega);go_wp2_with fail;rw[←Tc.out]
 all_goals
  refine(Wm (by omega) HA _ (HT.fN (iR.mono HT.size))).mono ?_;rintro e w4 ⟨⟨u,rfl⟩,fa⟩;have pB:=aa (iR.trans (fa.mono iR.size));clear fa;go_wp2_with fail;refine(Nk _ _).mono ?_;rintro e w5 ⟨rfl,rfl⟩;cases hi:dS (jS s.data.toList)
  ·have sZ:bH s.data.toList=0:=by rw[Lt.out,vf,xb.out,hi];rfl
   have HN:=aa sZ;have HR:=aa (FF sZ HI HJ);clear sZ;go_wp2_with fail;go_ret2;exact jA.mk' HR HN pB
  ·have sZ:bH s.data.toList=21:=by rw[Lt.out,vf,xb.out,hi];rfl
   have HN:=aa sZ;clear sZ;go_wp2_with fail;go_ret2;exact jA.mk' (qt HN (by omega)) HN pB
def Pv (B:Nat) (w:World):Prop:= ∃B0,B0≤B∧iZ B0 w
theorem alu:pT (fun _=>True) Pv:=
 ⟨fun⟨B0,h1,h2⟩ hb=>⟨B0,h1,h2.fN (hb.mono h1)⟩,fun⟨B0,h1,h2⟩ hB=>⟨B0,bn h1 hB,h2⟩,fun s _ w _ ⟨B0,_,h2⟩ _ _=>(Wr B0 s w h2).mono fun _ _ ⟨h1,h3⟩=>⟨⟨_,h1⟩,h3⟩⟩
