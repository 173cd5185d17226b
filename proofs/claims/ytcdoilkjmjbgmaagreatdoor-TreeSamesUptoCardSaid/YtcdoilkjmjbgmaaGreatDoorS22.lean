import Derived.Test.YtcdoilkjmjbgmaaGreatDoorS16
import Derived.Test.YtcdoilkjmjbgmaaGreatDoorS20
import Derived.Test.YtcdoilkjmjbgmaaGreatDoorS21
/- Part of the proof of YtcdoilkjmjbgmaaGreatDoorCardY: RbO RdE RdF RdG. -/
set_option maxRecDepth 100000
set_option maxHeartbeats 4000000
set_option linter.unusedVariables false
set_option linter.unusedSimpArgs false
namespace Go.Proofs.YtcdoilkjmjbgmaaGreatDoor
open Go.RowKit
open Go.Proofs.Tryz
variable {w w' w0:World} {l:List UInt8} {x n base p at' k E:Nat} {s:ByteArray} {br sq:Bool} {v:Value} {ts:List Tok} {c:UInt8}
def O2 (w:World) (l:List UInt8) (e:Ending) (w':World):Prop:=
 ∃x,e= .returned (.tuple #[.float .f64 x,.int .i64 (bI l:Int)])∧Below w.heap.size w w'
theorem rK (s:ByteArray) (w:World):Calls prog 126 #[.string s,.string {data:=#[105,110,102]}] w fun e w'=>e= .returned (.bool (dD s.data.toList 105 110 102))∧ ∃d,w'=w.drewN d:=
 Jz s {data:=#[105,110,102]} w rfl (by decide) _ (O0 s 105 110 102 (by decide) (by decide) (by decide))
theorem wz (s:ByteArray) (w:World):Calls prog 126 #[.string s,.string {data:=#[110,97,110]}] w fun e w'=>e= .returned (.bool (dD s.data.toList 110 97 110))∧ ∃d,w'=w.drewN d:=
 Jz s {data:=#[110,97,110]} w rfl (by decide) _ (O0 s 110 97 110 (by decide) (by decide) (by decide))
theorem eh (h:bI l=n) (hb:Below w.heap.size w w'):O2 w l (.returned (.tuple #[.float .f64 x,.int .i64 (n:Int)])) w':=⟨x,by rw[h],hb⟩
theorem Vy (s:ByteArray) (w:World) (hs:s.size≤maxLen):
  Calls prog 113 #[.string s] w (O2 w s.data.toList):=by
 unfold maxLen at hs;by_cases h1:512<s.size
 ·have hE:bI s.data.toList=1:=by rw[bI,az (by rw[af];exact h1)]
  have HE:=ae hE;clear hE;go_enter func113,ntmps113;go_wp2_with fail;go_ret2;exact eh HE.out (aU _ _)
 ·have HL:Hid (¬512<s.data.toList.length):=ae (by rw[af];exact h1);cases eC:dD s.data.toList 105 110 102
  ·cases AD:dD s.data.toList 110 97 110
   ·by_cases Dr:s.data.toList=[]∨an s.data.toList≠s.data.toList.length
    ·have hE:bI s.data.toList=20:=by rw[bI,ah HL.out,eC,AD,ah (by simp),az Dr]
     have HE:=ae hE;clear hE;by_cases hz:s.size=0
     ·go_enter func113,ntmps113;go_wp2_with fail;refine(rK s w).mono ?_;rintro e w' ⟨rfl,d,rfl⟩;rw[eC];go_wp2_with fail;refine(wz s _).mono ?_;rintro e w' ⟨rfl,d2,rfl⟩;rw[AD,jP];go_wp2_with fail;go_ret2;exact eh HE.out (bZ (aU _ _) _)
     ·have Ht: ¬an s.data.toList=s.size:=by
       rcases Dr with h|h
       ·exact absurd (by rw[←af,h];rfl) hz
       ·rwa [af]at h
      obtain⟨np,abh⟩: ∃n,n=an s.data.toList:=⟨_,rfl⟩;have ZD:=ae abh;rw[←abh]at Ht;clear Dr abh;have p1:((np:Int) != (s.size:Int))=true:=jo.2 (by omega);have p2:((s.size:Int)==0)=false:=bN.2 (by omega);go_enter func113,ntmps113;go_wp2_with fail;refine(rK s w).mono ?_;rintro e w' ⟨rfl,d,rfl⟩;rw[eC];go_wp2_with fail;refine(wz s _).mono ?_;rintro e w' ⟨rfl,d2,rfl⟩;rw[AD,jP];go_wp2_with (go_at_call 111;refine(uB s _ (by omega)).mono ?_;rintro e w' ⟨rfl,rfl⟩;rw[←ZD.out]);go_ret2;exact eh HE.out (bZ (aU _ _) _)
    ·rw[not_or,Decidable.not_not]at Dr;obtain⟨bW,Ht⟩:=Dr;have hE:bI s.data.toList=if vc s.data.toList=true then 21 else 0:=by rw[bI,ah HL.out,eC,AD,ah (by simp),ah (by rw[not_or,Decidable.not_not];exact⟨bW,Ht⟩)]
     have HE:=ae hE;have HV:=ae (verdict Ht bW (Nat.le_of_not_lt HL.out));have HB:=ae (Vi Ht bW (Nat.le_of_not_lt HL.out));have ZD:=ae (And.intro Ht bW);have hz: ¬s.size=0:=by rw[←af];exact fun h=>bW (o6.1 h)
     clear hE;have zQ: ∀w1,Calls prog 128 #[.string s] w1 (wu w1 s.size (nN s.data.toList) (nX s.data.toList)):=fun w1=>Nb s w1 (by omega) Ht bW
     have abi:=ae zQ;clear zQ;have afa:an s.data.toList=s.size:=by rw[Ht,af]
     have akk:=ae afa;clear Ht bW afa;generalize hX:nX s.data.toList=X at HV HB abi;generalize hN:nN s.data.toList=N at HV abi;clear hX hN;have bX:=HB.out;have p2:((s.size:Int)==0)=false:=bN.2 (by omega);go_enter func113,ntmps113;go_wp2_with fail;refine(rK s w).mono ?_;rintro e w' ⟨rfl,d,rfl⟩;rw[eC];go_wp2_with fail;refine(wz s _).mono ?_;rintro e w' ⟨rfl,d2,rfl⟩;rw[AD,jP];go_wp2_with (go_at_call 111;refine(uB s _ (by omega)).mono ?_;rintro e w' ⟨rfl,rfl⟩;rw[akk.out]);refine(abi.out _).mono ?_;rintro e w2 ⟨v,es,rfl,hI⟩;have bO:Below w.heap.size w w2:=(bZ (aU _ w) _).trans hI.below;obtain⟨ao,cap,rfl,fm⟩:=hI.r;have Pp:pA w2 (.slice ao es.length cap) es:=⟨ao,cap,rfl,fm⟩;have HI:=ae (And.intro Pp (And.intro hI.ok (And.intro hI.norm (And.intro hI.val (And.intro hI.len bO)))));have bl:es.length≤s.size:=hI.len;clear hI bO fm Pp;by_cases he0:es.length=0
     ·have p3:((es.length:Int)==0)=true:=cx.2 (by omega);have sS:N=0:=by rw[←HI.out.2.2.2.1,o6.1 he0];rfl
      have tm:bI s.data.toList=0:=by rw[HE.out,HV.out.1 sS,ah (by simp)]
      have zG:=ae tm;clear tm sS;go_wp2_with fail;go_ret2;exact eh zG.out HI.out.2.2.2.2.2
     ·have p3:((es.length:Int)==0)=false:=bN.2 (by omega);have sS:N≠0:=by
       have:=Gn HI.out.2.2.1 (by omega);rw[←HI.out.2.2.2.1];have h4:0<4294967296^(es.length-1):=eZ (by decide);omega
      have HN0:=ae sS;clear sS;by_cases lh:400<X
      ·have tm:bI s.data.toList=21:=by rw[HE.out,HV.out.2.1 HN0.out lh,az rfl]
       have zG:=ae tm;clear tm;go_wp2_with fail;go_ret2;exact eh zG.out HI.out.2.2.2.2.2
      ·by_cases mj:X< -1000
       ·have tm:bI s.data.toList=0:=by rw[HE.out,HV.out.2.2.1 mj,ah (by simp)]
        have zG:=ae tm;clear tm;go_wp2_with fail;go_ret2;exact eh zG.out HI.out.2.2.2.2.2
       ·have HX:=ae (HV.out.2.2.2 (by omega) (by omega));by_cases ZP:X<0
        ·obtain⟨k,hk⟩: ∃k:Nat,X= -(k:Int):=⟨(-X).toNat,by omega⟩;subst hk;have q6:(-(-(k:Int)))=(k:Int):=by omega
         have wZ:Hid (vc s.data.toList=true↔o0*10^k≤N):=ae (by
          have h:=HX.out;rw[Int.neg_neg,mn,show (-(k:Int)).toNat=0 by omega,o9,oj]at h;exact h)
         go_wp2_with fail;have aY:=(aU w2.heap.size w2).alloc (aS _) (.cells #[.int .u32 1] 184);refine(E2 (w2.alloc (.cells #[.int .u32 1] 184)) k (by omega)).mono ?_;rintro e w3 ⟨⟨v3,fs,rfl,f1,f2,f3,f4⟩,aQ⟩;have cu:=aY.trans (aQ.mono aY.size);have hfl:fs.length≤k+1:=mH f3 (by rw[f2];exact Ga k);have hn:Calls prog 131 #[.slice ao es.length cap,v3] w3 (rH w3 (aE es) (aE fs)):=
          zp w3 _ v3 es fs (HI.out.1.below cu) f1.r HI.out.2.1 f4 HI.out.2.2.1 (by omega) (by omega)
         rw[f2,HI.out.2.2.2.1]at hn;have HNR:=ae hn;have fZ:=ae (HI.out.2.2.2.2.2.trans (cu.mono HI.out.2.2.2.2.2.size));clear hn aY aQ cu f1 f2 f3 f4 hfl;go_wp2_with fail;refine HNR.out.mono ?_;rintro e w4 ⟨b,rfl,n1,n2,n3⟩;have ml:=ae (fZ.out.trans (n3.mono fZ.out.size));have mW:=ae n2;clear n2 n3;unfold eY at n1;by_cases iA:9218868437227405312≤b
         ·have p4:((9218868437227405312:Int)≤(b:Int))=True:=aD (by omega);have tm:bI s.data.toList=21:=by rw[HE.out,az (wZ.out.2 (mW.out.1 iA))]
          have zG:=ae tm;clear tm;go_wp2_with fail;go_ret2;exact eh zG.out ml.out
         ·have p4:((9218868437227405312:Int)≤(b:Int))=False:=bT (by omega);have tm:bI s.data.toList=0:=by rw[HE.out,ah (fun h=>iA (mW.out.2 (wZ.out.1 h)))]
          have zG:=ae tm;clear tm;go_wp2_with fail;rw[fF];rw[jQ];go_wp2_with fail;go_ret2;exact eh zG.out ml.out
        ·obtain⟨k,hk⟩: ∃k:Nat,X=(k:Int):=⟨X.toNat,by omega⟩;subst hk;have wZ:Hid (vc s.data.toList=true↔o0*1≤N*10^k):=ae (by
          have h:=HX.out;rw[mn,show (-(k:Int)).toNat=0 by omega,o9]at h;exact h)
         go_wp2_with fail;have uW:jl (w2.alloc (.cells #[.int .u32 1] 184)) w2.heap.size (.slice (some ⟨w2.heap.size,0,none⟩) 1 1) [1]:=yr (e:=184) (size:=1) w2 #[.int .u32 1] 1 (aS _) (by unfold maxLen;omega) rfl;have aY:=(aU w2.heap.size w2).alloc (aS _) (.cells #[.int .u32 1] 184);refine(E2 (w2.alloc (.cells #[.int .u32 1] 184)) k (by omega)).mono ?_;rintro e w3 ⟨⟨v3,fs,rfl,f1,f2,f3,f4⟩,aQ⟩;have cu:=aY.trans (aQ.mono aY.size);have hfl:fs.length≤k+1:=mH f3 (by rw[f2];exact Ga k);have hp:Calls prog 130 #[.slice ao es.length cap,v3] w3 (ik w3 (aE es*aE fs)):=
          zj w3 _ v3 es fs (HI.out.1.below cu) f1.r HI.out.2.1 f4 (by omega) (by omega)
         rw[f2,HI.out.2.2.2.1]at hp;have HPR:=ae hp;have fZ:=ae (HI.out.2.2.2.2.2.trans (cu.mono HI.out.2.2.2.2.2.size));have HD:=ae (uW.r.below aQ);have K4:=ae (show N*10^k<4294967296^(es.length+(k+1))by
          rw[←HI.out.2.2.2.1,dV];exact Ei (pN es HI.out.2.1) (Ga k))
         clear hp aY aQ cu f1 f2 f3 f4 hfl uW;go_wp2_with fail;refine HPR.out.mono ?_;rintro e w4 ⟨⟨v4,gs,rfl,g1,g2,g3,g4⟩,gb⟩;have zF:gs.length≤es.length+(k+1):=mH g3 (by rw[g2];exact K4.out);have hn:Calls prog 131 #[v4,.slice (some ⟨w2.heap.size,0,none⟩) 1 1] w4 (rH w4 (aE gs) (aE [1])):=
          zp w4 v4 _ gs [1] g1.r (HD.out.below gb) g4 (fun d hd=>by simp at hd;omega) g3 (by omega) (by simp)
         rw[g2,show aE [1]=1 from rfl]at hn;have HNR:=ae hn;have afb:=ae (fZ.out.trans (gb.mono fZ.out.size));clear hn gb g1 g2 g3 g4 zF;go_wp2_with fail;refine HNR.out.mono ?_;rintro e w5 ⟨b,rfl,n1,n2,n3⟩;have ml:=ae (afb.out.trans (n3.mono afb.out.size));have mW:=ae n2;clear n2 n3;unfold eY at n1;by_cases iA:9218868437227405312≤b
         ·have p4:((9218868437227405312:Int)≤(b:Int))=True:=aD (by omega);have tm:bI s.data.toList=21:=by rw[HE.out,az (wZ.out.2 (mW.out.1 iA))]
          have zG:=ae tm;clear tm;go_wp2_with fail;go_ret2;exact eh zG.out ml.out
         ·have p4:((9218868437227405312:Int)≤(b:Int))=False:=bT (by omega);have tm:bI s.data.toList=0:=by rw[HE.out,ah (fun h=>iA (mW.out.2 (wZ.out.1 h)))]
          have zG:=ae tm;clear tm;go_wp2_with fail;rw[fF];rw[jQ];go_wp2_with fail;go_ret2;exact eh zG.out ml.out
   ·have hE:bI s.data.toList=0:=by rw[bI,ah HL.out,AD,az (by simp)]
    have HE:=ae hE;clear hE;go_enter func113,ntmps113;go_wp2_with fail;refine(rK s w).mono ?_;rintro e w' ⟨rfl,d,rfl⟩;rw[eC];go_wp2_with fail;refine(wz s _).mono ?_;rintro e w' ⟨rfl,d2,rfl⟩;rw[AD,jP];go_wp2_with fail;rw[fF];rw[jQ];go_wp2_with fail;go_ret2;exact eh HE.out (bZ (aU _ _) _)
  ·have hE:bI s.data.toList=0:=by rw[bI,ah HL.out,eC,az (by simp)]
   have HE:=ae hE;clear hE;go_enter func113,ntmps113;go_wp2_with fail;refine(rK s w).mono ?_;rintro e w' ⟨rfl,d,rfl⟩;rw[eC];go_wp2_with fail;rw[fF];rw[jQ];go_wp2_with fail;go_ret2;exact eh HE.out (bZ (aU _ _) _)
theorem eK.from (h:eK base w0 p s at' br sq v ts w) (hb:Below w.heap.size w w'):eK base w0 p s at' br sq v ts w':=
 ⟨aM.below h.z hb h.z.lt,eQ h.own hb,h.below.trans (hb.mono (jk (o7 h.bp h.z.lt))),h.bp⟩
theorem eK.fail (h:eK base w0 p s at' br sq v ts w) {er:Nat} {y:Int} (hy:y=(er:Int)):LZ (w.setCell ⟨p,5,none⟩ (.int .i64 y)) p s at' br sq v er∧Below base w0 (w.setCell ⟨p,5,none⟩ (.int .i64 y)):=by
 subst hy;refine⟨?_,h.below.setCell (p:=⟨p,5,none⟩) h.bp _⟩;have:=aM.dz h.z 5 (.int .i64 (er:Int));simpa [LZ]using this
theorem G4 (l:List UInt8):ct l=(letter (au l (cD l))||digit (au l (cD l))||(au l (cD l)).toNat==46):=by
 unfold ct;by_cases h:cD l<l.length
 ·rw[dO h,mx]
 ·rw[gj h,qX,Bm (by omega)];rfl
theorem zv (hk:kA l=k) (hn:cD l=n) (hE:iO l=E) (hc:au l n=c):
  bG l br sq=if E≠0∨letter c=true∨digit c=true∨c.toNat=46 then .bad 112 else .tok k n br sq:=by
 have hf:=G4 l;rw[hn,hc]at hf;by_cases h:letter c=true∨digit c=true∨c.toNat=46
 ·have hf2:ct l=true:=by
   rw[hf];rcases h with h|h|h<;>simp[h]
  rw[fE hf2,az (.inr h)]
 ·have hf2:ct l=false:=by
   rw[hf];simp only[not_or,yv]at h;simp[h]
  by_cases tm:E=0
  ·rw[mN hk hn hf2 (by omega),ah (by rintro(h2|h2)<;>first|exact h2 tm|exact h h2)]
  ·rw[kX hf2 (by omega),az (.inl tm)]
theorem Cx (w:World) (base p:Nat) (s:ByteArray) (at':Nat) (br sq:Bool) (v:Value) (ts:List Tok) (w0:World) (hs:s.size≤281474976710656) (cI:at'<s.size) (h:eK base w0 p s at' br sq v ts w) (hlen:ts.length≤1099511627776):
  Calls prog 97 #[.pointer (some ⟨p,0,none⟩)] w (eV base w0 p s at' ts (bG (s.data.toList.drop at') br sq)):=by
 obtain⟨t,ht⟩: ∃t,t=s.extract at' s.size:=⟨_,rfl⟩;have qG:t.data.toList=s.data.toList.drop at':=by rw[ht,fX]
 have KV:t.size=s.size-at':=by rw[ht];simp
 obtain⟨Q,hQ⟩: ∃Q:Ending→World→Prop,Q=eV base w0 p s at' ts (bG (s.data.toList.drop at') br sq):=⟨_,rfl⟩;rw[←hQ];rw[←qG]at hQ;have c0:w.cell? ⟨p,0,none⟩=some (.string s):=by rw[h.z.cell];rfl
 have c1:w.cell? ⟨p,1,none⟩=some (.int .i64 (at':Int)):=by rw[h.z.cell];rfl
 have q1:((at':Int)≤(s.size:Int))=True:=by simp;omega
 have H:=ae h;have HQ:=ae hQ;have HT:=ae ht;have NX:=ae qG;have ars:t.size≤s.size:=by omega
 have HTS:=ae KV;clear h hQ qG KV ht;go_enter func97,ntmps97;go_wp2_with fail;go_quiet (fail);have HS:=ae (H.out.drewN nq);clear H c0 c1;generalize w.drewN nq=w2 at HS ⊢
 rw[←HT.out];clear HT;go_wp2_with fail;refine(uD t _ (by omega)).mono ?_;rintro e w3 ⟨rfl,rfl⟩;have zD:=kD t.data.toList;have AE:=pX t.data.toList;rw[af]at zD AE;have gM:=fun sp=>@Jk t.data.toList sp
 have qI:=fun np=>@OJ t.data.toList np
 obtain⟨d,hd⟩: ∃d,d=aX t.data.toList:=⟨_,rfl⟩;obtain⟨n,hn⟩: ∃n,n=an t.data.toList:=⟨_,rfl⟩;rw[←hd]at zD ⊢
 rw[←hn]at AE;have HD:=ae hd;have HN:=ae hn;have HSP:=ae gM;have Ls:=ae qI;clear hd gM qI hn;go_wp2_with fail;refine(uB t _ (by omega)).mono ?_;rintro e w3 ⟨rfl,rfl⟩;rw[←HN.out];by_cases aA:n<d
 ·obtain⟨hk,hl,hb⟩:=HSP.out d HD.out.symm (by rw[←HN.out];exact aA);obtain⟨u,hu⟩: ∃u,u=t.extract 0 d:=⟨_,rfl⟩;have hud:u.data.toList=t.data.toList.take d:=by rw[hu,fB]
  have Zv:u.size≤s.size:=by rw[hu];simp;omega
  obtain⟨c,hc⟩: ∃c,c=au t.data.toList d:=⟨_,rfl⟩;obtain⟨E,hE⟩: ∃E,E=(bz u.data.toList).2:=⟨_,rfl⟩;have hR:=zv (br:=br) (sq:=sq) hk hl hb hc.symm;rw[←hud,←hE]at hR;have HR:=ae hR;have HU:=ae hu;have HA:Hid (∀w,Calls prog 96 #[.string t,.int .i64 (d:Int)] w fun e w'=>e= .returned (.int .u8 (c.toNat:Int))∧w=w'):=ae (fun w=>vQ t _ d rfl c hc.symm w (by unfold maxLen;omega));have HP:Hid (∀w,Calls prog 112 #[.string u] w fun e w'=>e= .returned (.tuple #[.int .i64 ((bz u.data.toList).1:Nat),.int .i64 (E:Nat)])∧w=w'):=ae (fun w=>by rw[hE];exact Q1 u w (by unfold maxLen;omega));clear hk hl hb hR hc hE hud hu;go_wp2_with fail;rw[←HU.out];refine(HP.out _).mono ?_;rintro e w3 ⟨rfl,rfl⟩;have f5:w2.frozen? ⟨p,5,none⟩=false:=HS.out.z.frozen 5;have c5:w2.cell? ⟨p,5,none⟩=some (.int .i64 0):=by rw[HS.out.z.cell];rfl
  go_wp2_with fail;refine(HA.out _).mono ?_;rintro e w3 ⟨rfl,rfl⟩;cases tm:((E:Int) != 0)
  ·cases hl:letter c
   ·cases hd:digit c
    ·cases od:((c.toNat:Int)==46)
     ·have HK:Hid (bG t.data.toList br sq= .tok 4 d br sq):=ae (by
       rw[HR.out,ah];rintro(h|h|h|h)
       ·exact h (AP tm)
       ·rw[hl]at h;cases h
       ·rw[hd]at h;cases h
       ·have:=kE od;omega)
      go_wp2_with (first|(go_at_call 93;refine(dS c false hl _).mono ?_;rintro e w' ⟨rfl,rfl⟩)|(go_at_call 95;refine(fD c false hd _).mono ?_;rintro e w' ⟨rfl,rfl⟩));refine(bQ w2 base p s at' 4 d _ _ (by rfl) rfl br sq v ts w0 hs (by have:=HTS.out;omega) (by omega) HS.out hlen).mono ?_;rintro e w5 ⟨rfl,iy⟩;have sV:=ae iy;clear iy;go_wp2_with fail;go_end0;rw[HQ.out,HK.out];exact⟨rfl,sV.out⟩
     ·have HB:Hid (bG t.data.toList br sq= .bad 112):=ae (by rw[HR.out,az (.inr (.inr (.inr (by have:=jn od;omega))))]);go_wp2_with (first|(go_at_call 93;refine(dS c false hl _).mono ?_;rintro e w' ⟨rfl,rfl⟩)|(go_at_call 95;refine(fD c false hd _).mono ?_;rintro e w' ⟨rfl,rfl⟩));refine cB (pa rfl _ _ _) rfl ?_;rw[HQ.out,HB.out];exact⟨rfl,br,sq,v,(HS.out.fail rfl).1,(HS.out.fail rfl).2⟩
    ·have HB:Hid (bG t.data.toList br sq= .bad 112):=ae (by rw[HR.out,az (.inr (.inr (.inl hd)))]);go_wp2_with (first|(go_at_call 93;refine(dS c false hl _).mono ?_;rintro e w' ⟨rfl,rfl⟩)|(go_at_call 95;refine(fD c true hd _).mono ?_;rintro e w' ⟨rfl,rfl⟩));refine cB (pa rfl _ _ _) rfl ?_;rw[HQ.out,HB.out];exact⟨rfl,br,sq,v,(HS.out.fail rfl).1,(HS.out.fail rfl).2⟩
   ·have HB:Hid (bG t.data.toList br sq= .bad 112):=ae (by rw[HR.out,az (.inr (.inl hl))]);go_wp2_with (first|(go_at_call 93;refine(dS c true hl _).mono ?_;rintro e w' ⟨rfl,rfl⟩));refine cB (pa rfl _ _ _) rfl ?_;rw[HQ.out,HB.out];exact⟨rfl,br,sq,v,(HS.out.fail rfl).1,(HS.out.fail rfl).2⟩
  ·have HB:Hid (bG t.data.toList br sq= .bad 112):=ae (by rw[HR.out,az (.inl (zO tm))]);go_wp2_with fail;refine cB (pa rfl _ _ _) rfl ?_;rw[HQ.out,HB.out];exact⟨rfl,br,sq,v,(HS.out.fail rfl).1,(HS.out.fail rfl).2⟩
 ·obtain⟨hk,hl,hb⟩:=Ls.out n HN.out.symm (by rw[←HD.out];exact aA);obtain⟨u,hu⟩: ∃u,u=t.extract 0 n:=⟨_,rfl⟩;have hud:u.data.toList=t.data.toList.take n:=by rw[hu,fB]
  have Zv:u.size≤s.size:=by rw[hu];simp;omega
  obtain⟨c,hc⟩: ∃c,c=au t.data.toList n:=⟨_,rfl⟩;obtain⟨E,hE⟩: ∃E,E=bI u.data.toList:=⟨_,rfl⟩;have hR:=zv (br:=br) (sq:=sq) hk hl hb hc.symm;rw[←hud,←hE]at hR;have HR:=ae hR;have HU:=ae hu;have HA:Hid (∀w,Calls prog 96 #[.string t,.int .i64 (n:Int)] w fun e w'=>e= .returned (.int .u8 (c.toNat:Int))∧w=w'):=ae (fun w=>vQ t _ n rfl c hc.symm w (by unfold maxLen;omega));have HP:Hid (∀w:World,Calls prog 113 #[.string u] w fun e w'=> ∃x,e= .returned (.tuple #[.float .f64 x,.int .i64 (E:Int)])∧Below w.heap.size w w'):=ae (fun w=>by rw[hE];exact Vy u w (by unfold maxLen;omega));clear hk hl hb hR hc hE hud hu;go_wp2_with fail;rw[←HU.out];refine(HP.out _).mono ?_;rintro e w3 ⟨x,rfl,cu⟩;replace HS:=ae (HS.out.from cu);clear cu;generalize w3=w2 at HS ⊢
  have f5:w2.frozen? ⟨p,5,none⟩=false:=HS.out.z.frozen 5;have c5:w2.cell? ⟨p,5,none⟩=some (.int .i64 0):=by rw[HS.out.z.cell];rfl
  go_wp2_with fail;refine(HA.out _).mono ?_;rintro e w3 ⟨rfl,rfl⟩;cases tm:((E:Int) != 0)
  ·cases hl:letter c
   ·cases hd:digit c
    ·cases od:((c.toNat:Int)==46)
     ·have HK:Hid (bG t.data.toList br sq= .tok 3 n br sq):=ae (by
       rw[HR.out,ah];rintro(h|h|h|h)
       ·exact h (AP tm)
       ·rw[hl]at h;cases h
       ·rw[hd]at h;cases h
       ·have:=kE od;omega)
      go_wp2_with (first|(go_at_call 93;refine(dS c false hl _).mono ?_;rintro e w' ⟨rfl,rfl⟩)|(go_at_call 95;refine(fD c false hd _).mono ?_;rintro e w' ⟨rfl,rfl⟩));refine(bQ w2 base p s at' 3 n _ _ (by rfl) rfl br sq v ts w0 hs (by have:=HTS.out;omega) (by omega) HS.out hlen).mono ?_;rintro e w5 ⟨rfl,iy⟩;have sV:=ae iy;clear iy;go_wp2_with fail;go_end0;rw[HQ.out,HK.out];exact⟨rfl,sV.out⟩
     ·have HB:Hid (bG t.data.toList br sq= .bad 112):=ae (by rw[HR.out,az (.inr (.inr (.inr (by have:=jn od;omega))))]);go_wp2_with (first|(go_at_call 93;refine(dS c false hl _).mono ?_;rintro e w' ⟨rfl,rfl⟩)|(go_at_call 95;refine(fD c false hd _).mono ?_;rintro e w' ⟨rfl,rfl⟩));refine cB (pa rfl _ _ _) rfl ?_;rw[HQ.out,HB.out];exact⟨rfl,br,sq,v,(HS.out.fail rfl).1,(HS.out.fail rfl).2⟩
    ·have HB:Hid (bG t.data.toList br sq= .bad 112):=ae (by rw[HR.out,az (.inr (.inr (.inl hd)))]);go_wp2_with (first|(go_at_call 93;refine(dS c false hl _).mono ?_;rintro e w' ⟨rfl,rfl⟩)|(go_at_call 95;refine(fD c true hd _).mono ?_;rintro e w' ⟨rfl,rfl⟩));refine cB (pa rfl _ _ _) rfl ?_;rw[HQ.out,HB.out];exact⟨rfl,br,sq,v,(HS.out.fail rfl).1,(HS.out.fail rfl).2⟩
   ·have HB:Hid (bG t.data.toList br sq= .bad 112):=ae (by rw[HR.out,az (.inr (.inl hl))]);go_wp2_with (first|(go_at_call 93;refine(dS c true hl _).mono ?_;rintro e w' ⟨rfl,rfl⟩));refine cB (pa rfl _ _ _) rfl ?_;rw[HQ.out,HB.out];exact⟨rfl,br,sq,v,(HS.out.fail rfl).1,(HS.out.fail rfl).2⟩
  ·have HB:Hid (bG t.data.toList br sq= .bad 112):=ae (by rw[HR.out,az (.inl (zO tm))]);go_wp2_with fail;refine cB (pa rfl _ _ _) rfl ?_;rw[HQ.out,HB.out];exact⟨rfl,br,sq,v,(HS.out.fail rfl).1,(HS.out.fail rfl).2⟩
theorem Ko (w:World) (base p:Nat) (s:ByteArray) (at':Nat) (br sq:Bool) (v:Value) (ts:List Tok) (w0:World) (hs:s.size≤281474976710) (cI:at'<s.size) (h:eK base w0 p s at' br sq v ts w) (hlen:ts.length≤1099511627776):
  Calls prog 98 #[.pointer (some ⟨p,0,none⟩)] w (eV base w0 p s at' ts (s6 (s.data.toList.drop at') br sq)):=by
 obtain⟨L,hL⟩: ∃L,L=s.data.toList.drop at':=⟨_,rfl⟩;obtain⟨Q,hQ⟩: ∃Q:Ending→World→Prop,Q=eV base w0 p s at' ts (s6 L br sq):=⟨_,rfl⟩;rw[←hL,←hQ];have c0:w.cell? ⟨p,0,none⟩=some (.string s):=by rw[h.z.cell];rfl
 have c1:w.cell? ⟨p,1,none⟩=some (.int .i64 (at':Int)):=by rw[h.z.cell];rfl
 have hle:=yV s.data.toList at';rw[←hL]at hle;have hLl:L.length=s.size-at':=by rw[hL,nP,af]
 have H:=ae h;have HQ:=ae hQ;have HL:=ae hL;clear h hQ hL;obtain⟨T,hT⟩: ∃T,T=bC s.data.toList at':=⟨_,rfl⟩;have HLI:Hid (∀w,Calls prog 114 #[.string s,.int .i64 (at':Int)] w fun e w'=>e= .returned (.tuple #[.int .i64 (jN T),.int .i64 (nS 10 T)])∧w=w'):=ae (fun w=>by rw[hT];exact kY s at' w (by omega));rw[←hT]at hle;clear hT;cases he:bC L 0 with
 |none=>
  rw[he]at hle;have hS:s6 L br sq= .bad 111:=by rw[s6,he]
  have D6:=ae hS;simp only[Option.map_none]at hle;subst hle;simp only[jN,nS]at HLI;clear hS he hLl;go_enter func98,ntmps98;go_wp2_with fail;go_quiet ((go_at_call 114;exact Calls.quiet_of_same ((HLI.out _).mono fun _ _ ⟨h1,h2⟩=>⟨h1,h2.symm⟩)));have HS:=ae (H.out.drewN nq);have f5:(w.drewN nq).frozen? ⟨p,5,none⟩=false:=HS.out.z.frozen 5;have c5:(w.drewN nq).cell? ⟨p,5,none⟩=some (.int .i64 0):=by rw[HS.out.z.cell];rfl
  clear H c0 c1;generalize w.drewN nq=w2 at HS f5 c5 ⊢
  go_wp2_with fail;refine cB (pa rfl _ _ _) rfl ?_;rw[HQ.out,D6.out];exact⟨rfl,br,sq,v,(HS.out.fail rfl).1,(HS.out.fail rfl).2⟩
 |some n=>
  rw[he]at hle;have hn:=xJ he;have hS:s6 L br sq=if (lM (L.take n)).1=0 then .tok 5 n br sq else .bad 111:=by rw[s6,he]
  simp only[Option.map_some]at hle;subst hle;simp only[jN,nS]at HLI;rw[hLl]at hn;have hxt:(s.extract at' (n+at')).data.toList=L.take n:=by
   rw[Lib.extract_data,HL.out,show n+at'-at'=n by omega]
  have ZF:(s.extract at' (n+at')).size≤281474976710:=by simp;omega
  obtain⟨R,hR⟩: ∃R,R=lM (L.take n):=⟨_,rfl⟩;obtain⟨uq,huq⟩: ∃uq,uq=R.1:=⟨_,rfl⟩;obtain⟨US,hUS⟩: ∃US:ByteArray,US=⟨R.2.toArray⟩:=⟨_,rfl⟩;have HUN:Hid (∀w:World,Calls prog 115 #[.string (s.extract at' (n+at'))] w fun e w'=>e= .returned (.tuple #[.string US,.int .i64 (uq:Int)])∧Below w.heap.size w w'):=ae (fun w=>by
   rw[hUS,huq,hR,←hxt];exact Kn _ w ZF)
  rw[←hR,←huq]at hS;have D6:=ae hS;have Ls:=ae hn;have hns:n+at'≤s.size:=by omega
  have r1:((at':Int)≤(n:Int)+(at':Int))=True:=by simp;omega
  have r2:((n:Int)+(at':Int)≤(s.size:Int))=True:=by simp;omega
  have r3:(0≤(n:Int)+(at':Int))=True:=by simp;omega
  have r4:((n:Int)+(at':Int)).toNat=n+at':=by omega
  clear hS he hLl hR huq hUS hxt ZF hn;go_enter func98,ntmps98;go_wp2_with fail;go_quiet ((go_at_call 114;exact Calls.quiet_of_same ((HLI.out _).mono fun _ _ ⟨h1,h2⟩=>⟨h1,h2.symm⟩)));have HS:=ae (H.out.drewN nq);have g0:(w.drewN nq).cell? ⟨p,0,none⟩=some (.string s):=by rw[HS.out.z.cell];rfl
  have g1:(w.drewN nq).cell? ⟨p,1,none⟩=some (.int .i64 (at':Int)):=by rw[HS.out.z.cell];rfl
  have Xj:p<(w.drewN nq).heap.size:=HS.out.z.lt;clear H c0 c1;generalize w.drewN nq=w3 at HS g0 g1 Xj ⊢
  go_wp2_with fail;go_region_held3 (fun w'=>w'.cell? ⟨p,0,none⟩=some (.string s)∧w'.cell? ⟨p,1,none⟩=some (.int .i64 (at':Int))) (first|go_keep) (first|(go_at_call 115;refine(HUN.out _).mono ?_;rintro e w4 ⟨rfl,fe⟩;have k0:w4.cell? ⟨p,0,none⟩=some (.string s):=(fe.cell (p:=⟨p,0,none⟩) Xj).trans g0;have k1:w4.cell? ⟨p,1,none⟩=some (.int .i64 (at':Int)):=(fe.cell (p:=⟨p,1,none⟩) Xj).trans g1;have ml:=ae fe;clear fe));have fe:=((aU w3.heap.size w3).drew).trans ml.out;have Hz:=ae (HS.out.from fe);have m1:w4.cell? ⟨p,1,none⟩=some (.int .i64 (at':Int)):=by rw[Hz.out.z.cell];rfl
  have f5:w4.frozen? ⟨p,5,none⟩=false:=Hz.out.z.frozen 5;have c5:w4.cell? ⟨p,5,none⟩=some (.int .i64 0):=by rw[Hz.out.z.cell];rfl
  clear fe ml g0 g1 HS;cases hu:((uq:Int) != 0)
  ·go_wp2_with fail;refine(bQ w4 base p s at' 5 n _ _ (by rfl) (by first|rfl|omega) br sq v ts w0 (by omega) (by omega) (by omega) Hz.out hlen).mono ?_;rintro e w5 ⟨rfl,iy⟩;have sV:=ae iy;clear iy;go_wp2_with fail;go_end0;rw[HQ.out,D6.out,az (AP hu)];exact⟨rfl,sV.out⟩
  ·go_wp2_with fail;refine cB (pa rfl _ _ _) rfl ?_;rw[HQ.out,D6.out,ah (zO hu)];exact⟨rfl,br,sq,v,(Hz.out.fail rfl).1,(Hz.out.fail rfl).2⟩
def nh (c d:UInt8):Bool:=(c==61&&(d==61||d==126))||(c==33&&(d==61||d==126))||((c==60||c==62)&&d==61)
theorem aci (h:l≠[]):Hk l=nh (au l 0) (au l 1):=by
 match l,h with
 |[c],_=>simp[Hk,nh,au]
 |c::d::r,_=>
  have e0:au (c::d::r) 0=c:=rfl;have e1:au (c::d::r) 1=d:=rfl;rw[e0,e1,eo];simp only[Hk,nh,SW,qC,qP,ek,kH,tu,ua,cx,List.contains_iff_mem,gL,u6,kJ,ll,iX];constructor
  ·rintro⟨_,h⟩;rcases h with⟨a,b⟩|⟨a,b⟩|⟨a,b⟩|⟨a,b⟩|⟨a,b⟩|⟨a,b⟩<;>simp[a,b]
  ·intro h;refine⟨by omega,?_⟩;rcases h with(⟨a,b|b⟩|⟨a,b|b⟩)|⟨a|a,b⟩<;>simp[a,b]
def AL (c d:UInt8) (br sq:Bool):AO:=
 if nh c d=true then .tok 6 2 br sq
 else if c.toNat=123 then .tok 6 1 true sq
 else if c.toNat=125 then .tok 6 1 false sq
 else if c.toNat=91 then .tok 6 1 br true
 else if c.toNat=93 then .tok 6 1 br false
 else if LD.contains c.toNat=true then .tok 6 1 br sq
 else .bad 110
theorem agf (h:l≠[]) (br sq:Bool):sc l br sq=AL (au l 0) (au l 1) br sq:=by
 rw[sc,AL,aci h]
theorem eK.χ (h:eK base w0 p s at' br sq v ts w) (b:Bool):eK base w0 p s at' b sq v ts (w.setCell ⟨p,2,none⟩ (.bool b)):=by
 refine⟨?_,aG h.own h.z (by decide) _,h.below.setCell (p:=⟨p,2,none⟩) h.bp _,h.bp⟩;have:=aM.dz h.z 2 (.bool b);simpa [LZ]using this
theorem eK.ψ (h:eK base w0 p s at' br sq v ts w) (b:Bool):eK base w0 p s at' br b v ts (w.setCell ⟨p,3,none⟩ (.bool b)):=by
 refine⟨?_,aG h.own h.z (by decide) _,h.below.setCell (p:=⟨p,3,none⟩) h.bp _,h.bp⟩;have:=aM.dz h.z 3 (.bool b);simpa [LZ]using this
set_option maxHeartbeats 8000000 in
theorem qc (w:World) (base p:Nat) (s:ByteArray) (at':Nat) (br sq:Bool) (v:Value) (ts:List Tok) (w0:World) (hs:s.size≤281474976710656) (cI:at'<s.size) (h:eK base w0 p s at' br sq v ts w) (hlen:ts.length≤1099511627776):
  Calls prog 99 #[.pointer (some ⟨p,0,none⟩)] w (eV base w0 p s at' ts (sc (s.data.toList.drop at') br sq)):=by
 have bW:s.data.toList.drop at'≠[]:=by
  intro e;have:=cn List.length e;rw[nP,af]at this;simp at this;omega
 rw[agf bW,gq,gq,iz,ay cI];obtain⟨c,bf⟩: ∃c,s[at']=c:=⟨_,rfl⟩;obtain⟨d,hd⟩: ∃d,au s.data.toList (at'+1)=d:=⟨_,rfl⟩;rw[bf,hd];obtain⟨Q,hQ⟩: ∃Q:AO→Ending→World→Prop,Q=eV base w0 p s at' ts:=⟨_,rfl⟩;rw[←hQ];have Pq:d.toNat≠0→at'+1<s.size:=by
  intro h0;rcases dE (at'+1) s.size with h1|h1
  ·exact h1
  ·rw[Bm (by rw[af];exact h1)]at hd;rw[←hd]at h0;exact absurd rfl h0
 have HA:Hid (∀w,Calls prog 96 #[.string s,.int .i64 ((at':Int)+1)] w fun e w'=>e= .returned (.int .u8 (d.toNat:Int))∧w=w'):=ae (fun w=>vQ s _ (at'+1) (by omega) d hd w (by unfold maxLen;omega));have c0:w.cell? ⟨p,0,none⟩=some (.string s):=by rw[h.z.cell];rfl
 have c1:w.cell? ⟨p,1,none⟩=some (.int .i64 (at':Int)):=by rw[h.z.cell];rfl
 have H:=ae h;have HQ:=ae hQ;have HD0:=ae Pq;have p2:(at':Int)<(s.size:Int):=by omega
 clear h hQ hd bW Pq;go_enter func99,ntmps99;go_wp2_with fail;go_quiet ((go_at_call 96;exact Calls.quiet_of_same ((HA.out _).mono fun _ _ ⟨h1,h2⟩=>⟨h1,h2.symm⟩)));have HS:=ae (H.out.drewN nq);clear H c0 c1 HA;generalize w.drewN nq=w2 at HS ⊢
 have qg:=ae bf;have f2:w2.frozen? ⟨p,2,none⟩=false:=HS.out.z.frozen 2;have f3:w2.frozen? ⟨p,3,none⟩=false:=HS.out.z.frozen 3;have f5:w2.frozen? ⟨p,5,none⟩=false:=HS.out.z.frozen 5;have c2:w2.cell? ⟨p,2,none⟩=some (.bool br):=by rw[HS.out.z.cell];rfl
 have c3:w2.cell? ⟨p,3,none⟩=some (.bool sq):=by rw[HS.out.z.cell];rfl
 have c5:w2.cell? ⟨p,5,none⟩=some (.int .i64 0):=by rw[HS.out.z.cell];rfl
 clear bf qg;by_cases abj:c.toNat=123
 ·have hc:=cJ (n:=123) (by omega) abj;subst hc;have HR:Hid (AL (UInt8.ofNat 123) d br sq= .tok 6 1 true sq):=ae rfl;go_wp2_with fail;refine(bQ _ base p s at' 6 1 _ _ (by rfl) (by rfl) true sq v ts w0 hs (by omega) (by omega) (HS.out.χ true) hlen).mono ?_;rintro e w5 ⟨rfl,iy⟩;have sV:=ae iy;clear iy;go_wp2_with fail;go_end0;rw[HR.out,HQ.out];exact⟨rfl,sV.out⟩
 by_cases abk:c.toNat=125
 ·have hc:=cJ (n:=125) (by omega) abk;subst hc;have HR:Hid (AL (UInt8.ofNat 125) d br sq= .tok 6 1 false sq):=ae rfl;go_wp2_with fail;refine(bQ _ base p s at' 6 1 _ _ (by rfl) (by rfl) false sq v ts w0 hs (by omega) (by omega) (HS.out.χ false) hlen).mono ?_;rintro e w5 ⟨rfl,iy⟩;have sV:=ae iy;clear iy;go_wp2_with fail;go_end0;rw[HR.out,HQ.out];exact⟨rfl,sV.out⟩
 by_cases h91:c.toNat=91
 ·have hc:=cJ (n:=91) (by omega) h91;subst hc;have HR:Hid (AL (UInt8.ofNat 91) d br sq= .tok 6 1 br true):=ae rfl;go_wp2_with fail;refine(bQ _ base p s at' 6 1 _ _ (by rfl) (by rfl) br true v ts w0 hs (by omega) (by omega) (HS.out.ψ true) hlen).mono ?_;rintro e w5 ⟨rfl,iy⟩;have sV:=ae iy;clear iy;go_wp2_with fail;go_end0;rw[HR.out,HQ.out];exact⟨rfl,sV.out⟩
 by_cases h93:c.toNat=93
 ·have hc:=cJ (n:=93) (by omega) h93;subst hc;have HR:Hid (AL (UInt8.ofNat 93) d br sq= .tok 6 1 br false):=ae rfl;go_wp2_with fail;refine(bQ _ base p s at' 6 1 _ _ (by rfl) (by rfl) br false v ts w0 hs (by omega) (by omega) (HS.out.ψ false) hlen).mono ?_;rintro e w5 ⟨rfl,iy⟩;have sV:=ae iy;clear iy;go_wp2_with fail;go_end0;rw[HR.out,HQ.out];exact⟨rfl,sV.out⟩
 by_cases qy:c.toNat=40∨c.toNat=41∨c.toNat=44∨c.toNat=58∨c.toNat=43∨c.toNat=45∨c.toNat=42∨c.toNat=47∨c.toNat=37∨c.toNat=94∨c.toNat=64
 ·rcases qy with h|h|h|h|h|h|h|h|h|h|h
  all_goals
   have hc:=cJ (by omega) h;have HR:Hid (AL c d br sq= .tok 6 1 br sq):=ae (by rw[hc];rfl);subst hc;go_wp2_with fail;refine(bQ _ base p s at' 6 1 _ _ (by rfl) (by rfl) br sq v ts w0 hs (by omega) (by omega) HS.out hlen).mono ?_;rintro e w5 ⟨rfl,iy⟩;have sV:=ae iy;clear iy;go_wp2_with fail;go_end0;rw[HR.out,HQ.out];exact⟨rfl,sV.out⟩
 by_cases h61:c.toNat=61
 ·have hc:=cJ (n:=61) (by omega) h61;subst hc;cases e1:((d.toNat:Int)==61)
  ·cases e2:((d.toNat:Int)==126)
   ·have HR:Hid (AL (UInt8.ofNat 61) d br sq= .tok 6 1 br sq):=ae (by
     have n1:(d==61)=false:=bN.2 (pd (n:=61) (by omega) rfl e1);have n2:(d==126)=false:=bN.2 (pd (n:=126) (by omega) rfl e2);have:nh (UInt8.ofNat 61) d=false:=by simp[nh,n1,n2]
     rw[AL,this];rfl)
    go_wp2_with fail;refine(bQ _ base p s at' 6 1 _ _ (by rfl) (by rfl) br sq v ts w0 hs (by omega) (by omega) HS.out hlen).mono ?_;rintro e w5 ⟨rfl,iy⟩;have sV:=ae iy;clear iy;go_wp2_with fail;go_end0;rw[HR.out,HQ.out];exact⟨rfl,sV.out⟩
   ·have HR:Hid (AL (UInt8.ofNat 61) d br sq= .tok 6 2 br sq):=ae (by
     have n2:d=126:=om (n:=126) (by omega) rfl e2;rw[n2];rfl)
    go_wp2_with fail;refine(bQ _ base p s at' 6 2 _ _ (by rfl) (by rfl) br sq v ts w0 hs (by have:=HD0.out (by have:=jn e2;omega);omega) (by omega) HS.out hlen).mono ?_;rintro e w5 ⟨rfl,iy⟩;have sV:=ae iy;clear iy;go_wp2_with fail;refine cB (pa rfl _ _ _) rfl ?_;rw[HR.out,HQ.out];exact⟨rfl,sV.out⟩
  ·have HR:Hid (AL (UInt8.ofNat 61) d br sq= .tok 6 2 br sq):=ae (by
    have n2:d=61:=om (n:=61) (by omega) rfl e1;rw[n2];rfl)
   go_wp2_with fail;refine(bQ _ base p s at' 6 2 _ _ (by rfl) (by rfl) br sq v ts w0 hs (by have:=HD0.out (by have:=jn e1;omega);omega) (by omega) HS.out hlen).mono ?_;rintro e w5 ⟨rfl,iy⟩;have sV:=ae iy;clear iy;go_wp2_with fail;refine cB (pa rfl _ _ _) rfl ?_;rw[HR.out,HQ.out];exact⟨rfl,sV.out⟩
 by_cases h33:c.toNat=33
 ·have hc:=cJ (n:=33) (by omega) h33;subst hc;cases e1:((d.toNat:Int)==61)
  ·cases e2:((d.toNat:Int)==126)
   ·have HR:Hid (AL (UInt8.ofNat 33) d br sq= .bad 110):=ae (by
     have n1:(d==61)=false:=bN.2 (pd (n:=61) (by omega) rfl e1);have n2:(d==126)=false:=bN.2 (pd (n:=126) (by omega) rfl e2);have:nh (UInt8.ofNat 33) d=false:=by simp[nh,n1,n2]
     rw[AL,this];rfl)
    have x1:((d.toNat:Int)=61)=False:=bT (kE e1);have x2:((d.toNat:Int)=126)=False:=bT (kE e2);have y1:((d.toNat:Int) != 61)=true:=by rw[bne,e1];rfl
    have y2:((d.toNat:Int) != 126)=true:=by rw[bne,e2];rfl
    go_wp2_with fail;refine cB (pa rfl _ _ _) rfl ?_;rw[HR.out,HQ.out];exact⟨rfl,br,sq,v,(HS.out.fail rfl).1,(HS.out.fail rfl).2⟩
   ·have HR:Hid (AL (UInt8.ofNat 33) d br sq= .tok 6 2 br sq):=ae (by
     have n2:d=126:=om (n:=126) (by omega) rfl e2;rw[n2];rfl)
    have x1:((d.toNat:Int)=61)=False:=bT (kE e1);have y1:((d.toNat:Int) != 61)=true:=by rw[bne,e1];rfl
    have y2:((d.toNat:Int) != 126)=false:=by rw[bne,e2];rfl
    go_wp2_with fail;refine(bQ _ base p s at' 6 2 _ _ (by rfl) (by rfl) br sq v ts w0 hs (by have:=HD0.out (by have:=jn e2;omega);omega) (by omega) HS.out hlen).mono ?_;rintro e w5 ⟨rfl,iy⟩;have sV:=ae iy;clear iy;go_wp2_with fail;refine cB (pa rfl _ _ _) rfl ?_;rw[HR.out,HQ.out];exact⟨rfl,sV.out⟩
  ·have HR:Hid (AL (UInt8.ofNat 33) d br sq= .tok 6 2 br sq):=ae (by
    have n2:d=61:=om (n:=61) (by omega) rfl e1;rw[n2];rfl)
   have y1:((d.toNat:Int) != 61)=false:=by rw[bne,e1];rfl
   go_wp2_with fail;refine(bQ _ base p s at' 6 2 _ _ (by rfl) (by rfl) br sq v ts w0 hs (by have:=HD0.out (by have:=jn e1;omega);omega) (by omega) HS.out hlen).mono ?_;rintro e w5 ⟨rfl,iy⟩;have sV:=ae iy;clear iy;go_wp2_with fail;refine cB (pa rfl _ _ _) rfl ?_;rw[HR.out,HQ.out];exact⟨rfl,sV.out⟩
 by_cases h60:c.toNat=60
 ·have hc:=cJ (n:=60) (by omega) h60;subst hc;cases e1:((d.toNat:Int)==61)
  ·have HR:Hid (AL (UInt8.ofNat 60) d br sq= .tok 6 1 br sq):=ae (by
    have n1:(d==61)=false:=bN.2 (pd (n:=61) (by omega) rfl e1);have:nh (UInt8.ofNat 60) d=false:=by simp[nh,n1]
    rw[AL,this];rfl)
   go_wp2_with fail;refine(bQ _ base p s at' 6 1 _ _ (by rfl) (by rfl) br sq v ts w0 hs (by omega) (by omega) HS.out hlen).mono ?_;rintro e w5 ⟨rfl,iy⟩;have sV:=ae iy;clear iy;go_wp2_with fail;go_end0;rw[HR.out,HQ.out];exact⟨rfl,sV.out⟩
  ·have HR:Hid (AL (UInt8.ofNat 60) d br sq= .tok 6 2 br sq):=ae (by
    have n2:d=61:=om (n:=61) (by omega) rfl e1;rw[n2];rfl)
   go_wp2_with fail;refine(bQ _ base p s at' 6 2 _ _ (by rfl) (by rfl) br sq v ts w0 hs (by have:=HD0.out (by have:=jn e1;omega);omega) (by omega) HS.out hlen).mono ?_;rintro e w5 ⟨rfl,iy⟩;have sV:=ae iy;clear iy;go_wp2_with fail;refine cB (pa rfl _ _ _) rfl ?_;rw[HR.out,HQ.out];exact⟨rfl,sV.out⟩
 by_cases h62:c.toNat=62
 ·have hc:=cJ (n:=62) (by omega) h62;subst hc;cases e1:((d.toNat:Int)==61)
  ·have HR:Hid (AL (UInt8.ofNat 62) d br sq= .tok 6 1 br sq):=ae (by
    have n1:(d==61)=false:=bN.2 (pd (n:=61) (by omega) rfl e1);have:nh (UInt8.ofNat 62) d=false:=by simp[nh,n1]
    rw[AL,this];rfl)
   go_wp2_with fail;refine(bQ _ base p s at' 6 1 _ _ (by rfl) (by rfl) br sq v ts w0 hs (by omega) (by omega) HS.out hlen).mono ?_;rintro e w5 ⟨rfl,iy⟩;have sV:=ae iy;clear iy;go_wp2_with fail;go_end0;rw[HR.out,HQ.out];exact⟨rfl,sV.out⟩
  ·have HR:Hid (AL (UInt8.ofNat 62) d br sq= .tok 6 2 br sq):=ae (by
    have n2:d=61:=om (n:=61) (by omega) rfl e1;rw[n2];rfl)
   go_wp2_with fail;refine(bQ _ base p s at' 6 2 _ _ (by rfl) (by rfl) br sq v ts w0 hs (by have:=HD0.out (by have:=jn e1;omega);omega) (by omega) HS.out hlen).mono ?_;rintro e w5 ⟨rfl,iy⟩;have sV:=ae iy;clear iy;go_wp2_with fail;refine cB (pa rfl _ _ _) rfl ?_;rw[HR.out,HQ.out];exact⟨rfl,sV.out⟩
 have HR:Hid (AL c d br sq= .bad 110):=ae (by
  have g61:(c==61)=false:=bN.2 (fun e=>h61 (by rw[e];rfl));have g33:(c==33)=false:=bN.2 (fun e=>h33 (by rw[e];rfl));have g60:(c==60)=false:=bN.2 (fun e=>h60 (by rw[e];rfl));have g62:(c==62)=false:=bN.2 (fun e=>h62 (by rw[e];rfl));have h2:nh c d=false:=by simp[nh,g61,g33,g60,g62]
  have h1:LD.contains c.toNat=false:=by
   rw[Bool.eq_false_iff];intro h;simp only[LD,List.contains_iff_mem,gL,ll,iX]at h;omega
  rw[AL,h2,ah (by simp),ah abj,ah abk,ah h91,ah h93,h1];rfl)
 have art:((c.toNat:Int)==123)=false:=bN.2 (by omega);have aru:((c.toNat:Int)==125)=false:=bN.2 (by omega);have z91:((c.toNat:Int)==91)=false:=bN.2 (by omega);have z93:((c.toNat:Int)==93)=false:=bN.2 (by omega);have z40:((c.toNat:Int)==40)=false:=bN.2 (by omega);have z41:((c.toNat:Int)==41)=false:=bN.2 (by omega);have z44:((c.toNat:Int)==44)=false:=bN.2 (by omega);have z58:((c.toNat:Int)==58)=false:=bN.2 (by omega);have z43:((c.toNat:Int)==43)=false:=bN.2 (by omega);have z45:((c.toNat:Int)==45)=false:=bN.2 (by omega);have z42:((c.toNat:Int)==42)=false:=bN.2 (by omega);have z47:((c.toNat:Int)==47)=false:=bN.2 (by omega);have z37:((c.toNat:Int)==37)=false:=bN.2 (by omega);have z94:((c.toNat:Int)==94)=false:=bN.2 (by omega);have z64:((c.toNat:Int)==64)=false:=bN.2 (by omega);have z61:((c.toNat:Int)==61)=false:=bN.2 (by omega);have z33:((c.toNat:Int)==33)=false:=bN.2 (by omega);have z60:((c.toNat:Int)==60)=false:=bN.2 (by omega);have z62:((c.toNat:Int)==62)=false:=bN.2 (by omega);clear abj abk h91 h93 qy h61 h33 h60 h62;go_wp2_with fail;refine cB (pa rfl _ _ _) rfl ?_;rw[HR.out,HQ.out];exact⟨rfl,br,sq,v,(HS.out.fail rfl).1,(HS.out.fail rfl).2⟩
