import Derived.Test.YtcdoilkjmjbgmaaGreatDoorS48
import Derived.Test.YtcdoilkjmjbgmaaGreatDoorS06
/- Part of the proof of YtcdoilkjmjbgmaaGreatDoorCardY: NumE NumF. -/
set_option maxRecDepth 100000
set_option maxHeartbeats 4000000
set_option linter.unusedVariables false
set_option linter.unusedSimpArgs false
namespace Go.Proofs.YtcdoilkjmjbgmaaGreatDoor
open Go.RowKit
open Go.Proofs.Tryz
variable {l x:List UInt8} {i n:Nat} {w w':World}
def rz (l:List UInt8):Nat:=
 if bI l≠0 then 0 else if dD l 105 110 102=true then 9218868437227405312 else if dD l 110 97 110=true then 9221120237041090561 else jU l
theorem Wd (B:Nat) (s:ByteArray) (hs:s.size≤512) (h0:an s.data.toList=s.data.toList.length) (bW:s.data.toList≠[]) (hh:aR s.data.toList=false):uh B s (LC s.data.toList):=by
 obtain⟨hm,⟨i0,s9,qK⟩,hex⟩:=me h0 bW hh;intro w hT;have iI:0<s.size:=by rw[←af];exact Ec.2 bW
 have hml:bL s.data.toList≤s.size:=by have:=hm.1;rwa [af]at this
 have acJ:digit s[0]=true∨s[0].toNat=46:=by
  rw[←ay iI];exact(hm.2 0 (by omega)).imp id And.left
 have lh: ∀h:2<s.size,((s[1].toNat|||32:Nat):Int)≠120:=by
  intro h;have:=(Au h0 bW hh (by rw[af];omega)).2;rw[ay (by omega)]at this;omega
 obtain⟨M,N,D,P,dt,dg,tr,hr⟩: ∃M N D P dt dg tr,fl s.data.toList (bL s.data.toList)=⟨M,N,D,P,dt,dg,tr⟩:=⟨_,_,_,_,_,_,_,rfl⟩;have cH:=At hm _ (aS _);rw[hr]at cH;have hM:M<10000000000000000000:=by
  have h1:=cH.fk;have h2:=cH.th.1;simp only at h1 h2;have h3:(10:Nat)^N≤10^19:=dZ (by omega) h2;omega
 have heb: -100009≤fW s.data.toList∧fW s.data.toList≤100009:=by
  unfold fW;split
  ·rename_i aA;rcases hex with he|⟨_,he⟩
   ·omega
   ·have:=F2 (l:=s.data.toList) (j:=pq s.data.toList) s.data.toList.length (by have:=he.some;omega) (aS _) fun i a b=>he.fh i a b
    split<;>omega
  ·omega
 have Ow:=abQ hm (by omega) heb;have Ib: ∀(w:World) (B g:Nat),bu w g (fun _=>0) 0 0 false false→B≤g→Calls prog 212 #[.pointer (some ⟨g,0,none⟩),.string s] w fun e w'=>e= .returned (.bool true)∧eL w' g (Hs s.data.toList (bL s.data.toList) (fW s.data.toList)) false∧Below B w w':=by
  intro w B g Sk hB;refine Zp s w B g (bL s.data.toList) i0 (fW s.data.toList) (by omega) hm s9 qK Sk hB ?_;rcases hex with he|⟨aA,he⟩
  ·exact .inl ⟨by rw[he,af],by rw[fW,ah (by omega)]⟩
  ·refine .inr ⟨_,_,he,?_⟩;rw[fW,az aA,af]
 have hrf: ∀w,Calls prog 206 #[.string s] w fun e w'=>e= .returned (.tuple #[.int .u64 (M:Int),.int .i64 (oz (fl s.data.toList (bL s.data.toList)) (fW s.data.toList)),.bool false,.bool tr,.bool false,.int .i64 (s.size:Int),.bool true])∧w=w':=by
  intro w;rw[hr];rcases hex with he|⟨aA,he⟩
  ·have hE:fW s.data.toList=0:=by rw[fW,ah (by omega)]
   rw[hE];have hmz:bL s.data.toList=s.size:=by rw[he,af]
   rw[hmz]at hm s9 hr;exact wU s w (by omega) s.size 0 (.inl ⟨rfl,rfl⟩) hm iI i0 s9 qK lh M N D P dt dg tr hr
  ·have hE:fW s.data.toList=if xn s.data.toList=true then-((zC s.data.toList (pq s.data.toList) s.size:Nat):Int)else((zC s.data.toList (pq s.data.toList) s.size:Nat):Int):=by rw[fW,az aA,af]
   rw[hE];exact wU s w (by omega) (bL s.data.toList) _ (.inr ⟨pq s.data.toList,xn s.data.toList,he,rfl⟩) hm (by omega) i0 s9 qK lh M N D P dt dg tr hr
 have:=KO s w B iI acJ M (oz (fl s.data.toList (bL s.data.toList)) (fW s.data.toList)) tr hM (Hs s.data.toList (bL s.data.toList) (fW s.data.toList)) Ow.1 hrf Ib hT;have hv:LC s.data.toList=Dt M (oz (fl s.data.toList (bL s.data.toList)) (fW s.data.toList)) tr (Hs s.data.toList (bL s.data.toList) (fW s.data.toList)):=by
  rw[LC,hr]
 rw[hv];exact this
theorem JM (h:i<l.length):au (l++x) i=au l i:=by
 rw[au,au,lf,lf,Tj h]
theorem NJ (i:Nat):au (l++x) (l.length+i)=au x i:=by
 rw[au,au,lf,lf,Iq (by omega),Nat.add_sub_cancel_left]
theorem We (h:2≤l.length):eH (l++x) l.length=eH l l.length:=by
 unfold eH;rw[Io h,AU (by simp)]
theorem Wf (B:Nat) (s t:ByteArray) (hs:s.size≤512) (ht:t.data.toList=s.data.toList++[112,48]) (h0:an s.data.toList=s.data.toList.length) (hh:aR s.data.toList=true):uh B t (LB s.data.toList):=by
 obtain⟨h3,hz,hx,cH⟩:=sC h0 hh;intro w hT;rw[af]at h3;have htz:t.size=s.size+2:=by rw[←af,ht,iF,af];rfl
 have cI: ∀i,i<s.size→ ∀h:i<t.size,t[i]=au s.data.toList i:=fun i hi h=>by
  rw[←ay h,ht,JM (by rw[af];exact hi)]
 have Lm: ∀i,(h:s.size+i<t.size)→t[s.size+i]=au [112,48] i:=fun i h=>by
  rw[←ay h,ht,←af,NJ]
 obtain⟨M,N,D,tr,hr⟩: ∃M N D tr,eH s.data.toList s.data.toList.length=⟨M,N,D,tr⟩:=⟨_,_,_,_,rfl⟩;have hrk:=Gl cH _ (by rw[af];omega) (aS _);rw[hr]at hrk;have k1:=hrk.th;have k2:=hrk.fk;simp only at k1 k2;rw[af]at k1;have hM:M<18446744073709551616:=by
  have:(16:Nat)^N≤16^16:=dZ (by omega) k1.1;omega
 have hX: -500≤ly M N D∧ly M N D≤10000:=by
  unfold ly;split<;>omega
 have akE:Eo t.data.toList s.size:=by
  refine⟨by rw[af];omega,fun i a b=>?_⟩;rw[ht,JM (by rw[af];exact b)];exact cH.2 i a (by rw[af];exact b)
 have c0:t[0].toNat=48:=by rw[cI 0 (by omega) (by omega)];exact hz
 have c1:(t[1].toNat|||32)=120:=by rw[cI 1 (by omega) (by omega)];exact ON hx
 have hrt:eH t.data.toList s.size=⟨M,N,D,tr⟩:=by
  rw[ht,←hr,←af,We (by rw[af];omega)]
 have hrf: ∀w,Calls prog 206 #[.string t] w fun e w'=>e= .returned (.tuple #[.int .u64 (M:Int),.int .i64 (ly M N D),.bool false,.bool tr,.bool true,.int .i64 (t.size:Int),.bool true])∧w=w':=
  fun w=>ya t w s.size (by omega) (by omega) (by omega) c0 c1 akE (by rw[show t[s.size]=au [112,48] 0 from Lm 0 (by omega)];rfl) (by rw[Lm 1 (by omega)];rfl) htz M N D tr hrt
 have:=KN t w B s.size (by omega) (.inl (by
  have:digit t[0]=true:=by rw[digit];simp[c0]
  exact this)) M (ly M N D) tr hM hX hrf hT
 have hv:LB s.data.toList=(Sj M (ly M N D) tr).1:=by rw[LB,hr,ly]
 rw[hv];exact this
theorem aa1 (l:List UInt8) (a b c:UInt8):tE l [a,b,c]=dD l a.toNat b.toNat c.toNat:=by
 unfold tE dD;rcases l with _|⟨x,_|⟨y,_|⟨z,_|⟨u,r⟩⟩⟩⟩
 ·rfl
 ·rfl
 ·rfl
 ·simp[au,Bool.and_assoc]
 ·simp
def jy (w:World) (l:List UInt8) (e:Ending) (w':World):Prop:=e= .returned (.tuple #[.float .f64 (rz l),.int .i64 (bI l:Nat)])∧Below w.heap.size w w'
theorem jy.mk' {x:Nat} (hx:rz l=x) (hn:bI l=n) (hb:Below w.heap.size w w'):jy w l (.returned (.tuple #[.float .f64 x,.int .i64 (n:Int)])) w':=by
 subst hx;subst hn;exact⟨rfl,hb⟩
theorem KP (h:512<l.length):bI l=1:=by rw[bI,az h]
theorem NK (h: ¬512<l.length) (h1:dD l 105 110 102=true):bI l=0:=by rw[bI,ah h,az (by rw[h1];rfl)]
theorem NL (h: ¬512<l.length) (h1:dD l 110 97 110=true):bI l=0:=by rw[bI,ah h,az (by rw[h1];simp)]
theorem CI (h: ¬512<l.length) (h1:dD l 105 110 102=false) (h2:dD l 110 97 110=false) (h3:l=[]∨an l≠l.length):bI l=20:=by
 rw[bI,ah h,ah (by rw[h1,h2];simp),az h3]
theorem NM (h: ¬512<l.length) (h1:dD l 105 110 102=false) (h2:dD l 110 97 110=false) (h3: ¬(l=[]∨an l≠l.length)):bI l=if vc l=true then 21 else 0:=by
 rw[bI,ah h,ah (by rw[h1,h2];simp),ah h3]
theorem pV (h:bI l=n) (hn:n≠0):rz l=0:=by rw[rz,az (by rw[h];exact hn)]
theorem Fx (h:bI l=0) (h1:dD l 105 110 102=false) (h2:dD l 110 97 110=false):rz l=jU l:=by
 rw[rz,ah (by rw[h];simp),ah (by rw[h1];simp),ah (by rw[h2];simp)]
theorem Wg (B:Nat) (s:ByteArray) (w:World) (hT:iQ B w):Calls prog 160 #[.string s] w (jy w s.data.toList):=by
 have HT:=ae hT;clear hT;by_cases hl:512<s.size
 ·have q1:((512:Int)<(s.size:Int))=True:=aD (by omega);have HN:=ae (KP (l:=s.data.toList) (by rw[af];exact hl));go_enter func160,ntmps160;go_wp2_with fail;go_ret2;exact jy.mk' (pV HN (by omega)) HN (aU _ _)
 have q1:((512:Int)<(s.size:Int))=False:=bT (by omega);have HL:Hid (¬512<s.data.toList.length):=ae (by rw[af];omega);go_enter func160,ntmps160;go_wp2_with fail;refine(JC s ⟨#[105,110,102]⟩ _ (by omega) (by decide)).mono ?_;rintro e w1 ⟨rfl,aY⟩;have cF:=ae aY;clear aY;rcases Ir (dD s.data.toList 105 110 102)with h1|h1
 all_goals rw[show tE s.data.toList (⟨#[105,110,102]⟩:ByteArray).data.toList=_ from(aa1 s.data.toList 105 110 102).trans h1]
 next=>
  have HI:=ae h1;have HN:=ae (NK HL h1);clear h1;go_wp2_with fail;refine(Vo _).mono ?_;rintro e w2 ⟨rfl,rfl⟩;go_wp2_with fail;go_ret2;exact jy.mk' (by rw[rz,ah (by rw[HN.out];simp),az HI.out]) HN cF
 have HI:=ae h1;clear h1;go_wp2_with fail;refine(JC s ⟨#[110,97,110]⟩ _ (by omega) (by decide)).mono ?_;rintro e w2 ⟨rfl,aQ⟩;have bF:=ae (cF.trans (aQ.mono cF.size));clear aQ;rcases Ir (dD s.data.toList 110 97 110)with h2|h2
 all_goals rw[show tE s.data.toList (⟨#[110,97,110]⟩:ByteArray).data.toList=_ from(aa1 s.data.toList 110 97 110).trans h2]
 next=>
  have HJ:=ae h2;have HN:=ae (NL HL h2);clear h2;go_wp2_with fail;refine(Vp _).mono ?_;rintro e w3 ⟨rfl,rfl⟩;go_wp2_with fail;go_ret2;exact jy.mk' (by rw[rz,ah (by rw[HN.out];simp),ah (by rw[HI.out];simp),az HJ.out]) HN bF
 have HJ:=ae h2;clear h2;by_cases he:s.data.toList=[]
 ·have z1:(s.toList=[])=True:=aD (by rw[nM];exact he);have HN:=ae (CI HL HI HJ (.inl he));clear he;go_wp2_with fail;go_ret2;exact jy.mk' (pV HN (by omega)) HN bF
 have z1:(s.toList=[])=False:=bT (by rw[nM];exact he);have z2:s.toList.isEmpty=false:=by rw[nM];simpa using he
 have HE:=ae he;clear he;go_wp2_with fail;refine(Cc s _ (by omega)).mono ?_;rintro e w3 ⟨rfl,rfl⟩;by_cases hp:an s.data.toList≠s.data.toList.length
 ·have q3:((an s.data.toList:Int) != (s.size:Int))=true:=by rw[af]at hp;rw[jo];omega
  have HN:=ae (CI HL HI HJ (.inr hp));clear hp;go_wp2_with fail;go_ret2;exact jy.mk' (pV HN (by omega)) HN bF
 rw[ne_eq,Decidable.not_not]at hp;have q3:((an s.data.toList:Int) != (s.size:Int))=false:=by rw[hp,af];simp
 have HP:=ae hp;clear hp;go_wp2_with fail;refine(RH s _ (by omega)).mono ?_;rintro e w3 ⟨⟨v,rfl,hv⟩,cu⟩;have Ls:=ae (NM HL HI HJ (by rw[not_or];exact⟨HE,fun h=>h HP⟩));have fZ:=ae (bF.trans (cu.mono bF.size));have HV:=ae hv;clear cu hv;rcases Ir (gU s.data.toList)with o3|o3
 all_goals rw[o3]
 next=>
  have sS:bI s.data.toList=0:=by rw[Ls.out,vc,o3];rfl
  have HN:=ae sS;have HR:=ae ((Fx sS HI HJ).trans (show jU s.data.toList=xy s.data.toList by rw[jU,az o3]));have sR:=ae o3;clear sS o3;go_wp2_with fail;go_ret2;exact jy.mk' (by rw[HR.out];exact(HV sR).symm) HN fZ
 have sR:=ae o3;clear o3 HV;cases hh:aR s.data.toList
 case' false=>
  have hx:1<s.size→tT (au s.data.toList 1)=false∧((au s.data.toList 1).toNat|||32)≠120:=fun h=>Au HP HE hh (by rw[af];exact h)
  have hxf:tT (au s.data.toList 1)=false:=by
   rcases dE 1 s.size with h|h
   ·exact(hx h).1
   ·have:au s.data.toList 1=0:=by rw[au,lf,D9 (by rw[af];exact h)];rfl
    rw[this];rfl
  have HA:Hid (uh B s (jU s.data.toList)):=ae (by rw[show jU s.data.toList=LC s.data.toList by rw[jU,ah (by rw[sR.out];simp),ah (by rw[hxf];simp)]];exact Wd B s (by omega) HP HE hh);have hc:((1:Int)<(s.size:Int))=False∨ ∃h:1<s.size,((1:Int)<(s.size:Int))=True∧(bits .or .u8 ((s[1].toNat:Nat):Int) 32==120)=false:=by
   rcases dE 1 s.size with h|h
   ·right;refine⟨h,aD (by omega),?_⟩;have:=(hx h).2;rw[ay h]at this;rw[show bits .or .u8 ((s[1].toNat:Nat):Int) 32=((s[1].toNat|||32:Nat):Int)from vC s[1].toNat 32 (uc _) (by omega)];exact bN.2 (by omega)
   ·exact .inl (bT (by omega))
  clear hh hxf hx;rcases hc with q4|⟨hc,q4,ho⟩
  all_goals go_wp2_with fail
 case' true=>
  obtain⟨t,ht⟩: ∃t:ByteArray,t=s++⟨#[112,48]⟩:=⟨_,rfl⟩;obtain⟨k3,kz,kx,kok⟩:=sC HP hh;rw[af]at k3;have qG:t.data.toList=s.data.toList++[112,48]:=by rw[ht];simp
  have htz:t.size=s.size+2:=by rw[←af,qG,iF,af];rfl
  have HA:Hid (uh B t (jU s.data.toList)):=ae (by rw[show jU s.data.toList=LB s.data.toList by rw[jU,ah (by rw[sR.out];simp),az kx]];exact Wf B s t (by omega) qG HP hh);have ho:(bits .or .u8 ((s[1].toNat:Nat):Int) 32==120)=true:=by
   have:=ON kx;rw[ay (by omega)]at this;rw[show bits .or .u8 ((s[1].toNat:Nat):Int) 32=((s[1].toNat|||32:Nat):Int)from vC s[1].toNat 32 (uc _) (by omega),this];rfl
  have SR:=ae ht;clear kz kx kok hh qG ht;have q4:((1:Int)<(s.size:Int))=True:=aD (by omega);go_wp2_with fail;rw[←SR.out]
 all_goals
  refine(V8 (by omega) HA _ (HT.fQ (fZ.mono HT.size))).mono ?_;rintro e w4 ⟨⟨u,rfl⟩,fe⟩;have ml:=ae (fZ.trans (fe.mono fZ.size));clear fe;go_wp2_with fail;refine(Ni _ _).mono ?_;rintro e w5 ⟨rfl,rfl⟩;cases hi:dQ (jU s.data.toList)
  ·have sS:bI s.data.toList=0:=by rw[Ls.out,vc,sR.out,hi];rfl
   have HN:=ae sS;have HR:=ae (Fx sS HI HJ);clear sS;go_wp2_with fail;go_ret2;exact jy.mk' HR HN ml
  ·have sS:bI s.data.toList=21:=by rw[Ls.out,vc,sR.out,hi];rfl
   have HN:=ae sS;clear sS;go_wp2_with fail;go_ret2;exact jy.mk' (pV HN (by omega)) HN ml
def Pe (B:Nat) (w:World):Prop:= ∃B0,B0≤B∧iQ B0 w
theorem akF:pv (fun _=>True) Pe:=
 ⟨fun⟨B0,h1,h2⟩ hb=>⟨B0,h1,h2.fQ (hb.mono h1)⟩,fun⟨B0,h1,h2⟩ hB=>⟨B0,bR h1 hB,h2⟩,fun s _ w _ ⟨B0,_,h2⟩ _ _=>(Wg B0 s w h2).mono fun _ _ ⟨h1,h3⟩=>⟨⟨_,h1⟩,h3⟩⟩
