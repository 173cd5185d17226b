import Derived.Test.YtcdoilkjmjbgmaaGreatDoorW18
import Derived.Test.YtcdoilkjmjbgmaaGreatDoorW22
import Derived.Test.YtcdoilkjmjbgmaaGreatDoorW21
import Derived.Test.YtcdoilkjmjbgmaaGreatDoorW15
/- Part of the proof of YtcdoilkjmjbgmaaGreatDoorCardX: RbO RdE RdF RdG RdH TvA TvB. -/
set_option maxRecDepth 100000
set_option maxHeartbeats 4000000
set_option linter.unusedVariables false
set_option linter.unusedSimpArgs false
namespace Go.Proofs.YtcdoilkjmjbgmaaGreatDoor
open Go.RowKit
open Go.Proofs.Tryz
variable {w w' w0:World} {l:List UInt8} {x n base p at' k E j b:Nat} {s:ByteArray} {br sq:Bool} {v:Value} {ts:List Tok} {c:UInt8} {ss:List ByteArray} {ms:List PM}
def Pg (w:World) (l:List UInt8) (e:Ending) (w':World):Prop:=
 ∃x,e= .returned (.tuple #[.float .f64 x,.int .i64 (bH l:Int)])∧Below w.heap.size w w'
theorem rT (s:ByteArray) (w:World):Calls prog 126 #[.string s,.string {data:=#[105,110,102]}] w fun e w'=>e= .returned (.bool (dC s.data.toList 105 110 102))∧ ∃d,w'=w.drewN d:=
 JK s {data:=#[105,110,102]} w rfl (by decide) _ (Pe s 105 110 102 (by decide) (by decide) (by decide))
theorem wz (s:ByteArray) (w:World):Calls prog 126 #[.string s,.string {data:=#[110,97,110]}] w fun e w'=>e= .returned (.bool (dC s.data.toList 110 97 110))∧ ∃d,w'=w.drewN d:=
 JK s {data:=#[110,97,110]} w rfl (by decide) _ (Pe s 110 97 110 (by decide) (by decide) (by decide))
theorem eh (h:bH l=n) (hb:Below w.heap.size w w'):Pg w l (.returned (.tuple #[.float .f64 x,.int .i64 (n:Int)])) w':=⟨x,by rw[h],hb⟩
theorem VH (s:ByteArray) (w:World) (hs:s.size≤maxLen):
  Calls prog 113 #[.string s] w (Pg w s.data.toList):=by
 unfold maxLen at hs;by_cases h1:512<s.size
 ·have hE:bH s.data.toList=1:=by rw[bH,ar (by rw[ab];exact h1)]
  have HE:=aa hE;clear hE;go_enter func113,ntmps113;go_wp2_with fail;go_ret2;exact eh HE.out (aS _ _)
 ·have HL:Hid (¬512<s.data.toList.length):=aa (by rw[ab];exact h1);cases ey:dC s.data.toList 105 110 102
  ·cases AJ:dC s.data.toList 110 97 110
   ·by_cases DF:s.data.toList=[]∨ag s.data.toList≠s.data.toList.length
    ·have hE:bH s.data.toList=20:=by rw[bH,af HL.out,ey,AJ,af (by simp),ar DF]
     have HE:=aa hE;clear hE;by_cases hz:s.size=0
     ·go_enter func113,ntmps113;go_wp2_with fail;refine(rT s w).mono ?_;rintro e w' ⟨rfl,d,rfl⟩;rw[ey];go_wp2_with fail;refine(wz s _).mono ?_;rintro e w' ⟨rfl,d2,rfl⟩;rw[AJ,jN];go_wp2_with fail;go_ret2;exact eh HE.out (bS (aS _ _) _)
     ·have Ib: ¬ag s.data.toList=s.size:=by
       rcases DF with h|h
       ·exact absurd (by rw[←ab,h];rfl) hz
       ·rwa [ab]at h
      obtain⟨np,abC⟩: ∃n,n=ag s.data.toList:=⟨_,rfl⟩;have ZR:=aa abC;rw[←abC]at Ib;clear DF abC;have p1:((np:Int) != (s.size:Int))=true:=ju.2 (by omega);have p2:((s.size:Int)==0)=false:=bK.2 (by omega);go_enter func113,ntmps113;go_wp2_with fail;refine(rT s w).mono ?_;rintro e w' ⟨rfl,d,rfl⟩;rw[ey];go_wp2_with fail;refine(wz s _).mono ?_;rintro e w' ⟨rfl,d2,rfl⟩;rw[AJ,jN];go_wp2_with (go_at_call 111;refine(uJ s _ (by omega)).mono ?_;rintro e w' ⟨rfl,rfl⟩;rw[←ZR.out]);go_ret2;exact eh HE.out (bS (aS _ _) _)
    ·rw[not_or,Decidable.not_not]at DF;obtain⟨bC,Ib⟩:=DF;have hE:bH s.data.toList=if vf s.data.toList=true then 21 else 0:=by rw[bH,af HL.out,ey,AJ,af (by simp),af (by rw[not_or,Decidable.not_not];exact⟨bC,Ib⟩)]
     have HE:=aa hE;have HV:=aa (verdict Ib bC (Nat.le_of_not_lt HL.out));have HB:=aa (Vr Ib bC (Nat.le_of_not_lt HL.out));have ZR:=aa (And.intro Ib bC);have hz: ¬s.size=0:=by rw[←ab];exact fun h=>bC (pH.1 h)
     clear hE;have zY: ∀w1,Calls prog 128 #[.string s] w1 (wu w1 s.size (nN s.data.toList) (nX s.data.toList)):=fun w1=>Nb s w1 (by omega) Ib bC
     have abD:=aa zY;clear zY;have afP:ag s.data.toList=s.size:=by rw[Ib,ab]
     have al6:=aa afP;clear Ib bC afP;generalize hX:nX s.data.toList=X at HV HB abD;generalize hN:nN s.data.toList=N at HV abD;clear hX hN;have bX:=HB.out;have p2:((s.size:Int)==0)=false:=bK.2 (by omega);go_enter func113,ntmps113;go_wp2_with fail;refine(rT s w).mono ?_;rintro e w' ⟨rfl,d,rfl⟩;rw[ey];go_wp2_with fail;refine(wz s _).mono ?_;rintro e w' ⟨rfl,d2,rfl⟩;rw[AJ,jN];go_wp2_with (go_at_call 111;refine(uJ s _ (by omega)).mono ?_;rintro e w' ⟨rfl,rfl⟩;rw[al6.out]);refine(abD.out _).mono ?_;rintro e w2 ⟨v,es,rfl,hI⟩;have bN:Below w.heap.size w w2:=(bS (aS _ w) _).trans hI.below;obtain⟨ao,cap,rfl,eo⟩:=hI.r;have PF:pX w2 (.slice ao es.length cap) es:=⟨ao,cap,rfl,eo⟩;have HI:=aa (And.intro PF (And.intro hI.ok (And.intro hI.norm (And.intro hI.val (And.intro hI.len bN)))));have bl:es.length≤s.size:=hI.len;clear hI bN eo PF;by_cases he0:es.length=0
     ·have p3:((es.length:Int)==0)=true:=cn.2 (by omega);have sZ:N=0:=by rw[←HI.out.2.2.2.1,pH.1 he0];rfl
      have tA:bH s.data.toList=0:=by rw[HE.out,HV.out.1 sZ,af (by simp)]
      have zN:=aa tA;clear tA sZ;go_wp2_with fail;go_ret2;exact eh zN.out HI.out.2.2.2.2.2
     ·have p3:((es.length:Int)==0)=false:=bK.2 (by omega);have sZ:N≠0:=by
       have:=GA HI.out.2.2.1 (by omega);rw[←HI.out.2.2.2.1];have h4:0<4294967296^(es.length-1):=eX (by decide);omega
      have HN0:=aa sZ;clear sZ;by_cases lg:400<X
      ·have tA:bH s.data.toList=21:=by rw[HE.out,HV.out.2.1 HN0.out lg,ar rfl]
       have zN:=aa tA;clear tA;go_wp2_with fail;go_ret2;exact eh zN.out HI.out.2.2.2.2.2
      ·by_cases ml:X< -1000
       ·have tA:bH s.data.toList=0:=by rw[HE.out,HV.out.2.2.1 ml,af (by simp)]
        have zN:=aa tA;clear tA;go_wp2_with fail;go_ret2;exact eh zN.out HI.out.2.2.2.2.2
       ·have HX:=aa (HV.out.2.2.2 (by omega) (by omega));by_cases γ:X<0
        ·obtain⟨k,hk⟩: ∃k:Nat,X= -(k:Int):=⟨(-X).toNat,by omega⟩;subst hk;have q6:(-(-(k:Int)))=(k:Int):=by omega
         have xa:Hid (vf s.data.toList=true↔pF*10^k≤N):=aa (by
          have h:=HX.out;rw[Int.neg_neg,mq,show (-(k:Int)).toNat=0 by omega,pK,oC]at h;exact h)
         go_wp2_with fail;have aU:=(aS w2.heap.size w2).alloc (aP _) (.cells #[.int .u32 1] 184);refine(Fi (w2.alloc (.cells #[.int .u32 1] 184)) k (by omega)).mono ?_;rintro e w3 ⟨⟨v3,fs,rfl,f1,f2,f3,f4⟩,aM⟩;have cr:=aU.trans (aM.mono aU.size);have hfl:fs.length≤k+1:=mM f3 (by rw[f2];exact Gi k);have hn:Calls prog 131 #[.slice ao es.length cap,v3] w3 (rQ w3 (aA es) (aA fs)):=
          zx w3 _ v3 es fs (HI.out.1.below cr) f1.r HI.out.2.1 f4 HI.out.2.2.1 (by omega) (by omega)
         rw[f2,HI.out.2.2.2.1]at hn;have HNR:=aa hn;have iR:=aa (HI.out.2.2.2.2.2.trans (cr.mono HI.out.2.2.2.2.2.size));clear hn aU aM cr f1 f2 f3 f4 hfl;go_wp2_with fail;refine HNR.out.mono ?_;rintro e w4 ⟨b,rfl,n1,n2,n3⟩;have pB:=aa (iR.out.trans (n3.mono iR.out.size));have pC:=aa n2;clear n2 n3;unfold eW at n1;by_cases iJ:9218868437227405312≤b
         ·have p4:((9218868437227405312:Int)≤(b:Int))=True:=az (by omega);have tA:bH s.data.toList=21:=by rw[HE.out,ar (xa.out.2 (pC.out.1 iJ))]
          have zN:=aa tA;clear tA;go_wp2_with fail;go_ret2;exact eh zN.out pB.out
         ·have p4:((9218868437227405312:Int)≤(b:Int))=False:=bL (by omega);have tA:bH s.data.toList=0:=by rw[HE.out,af (fun h=>iJ (pC.out.2 (xa.out.1 h)))]
          have zN:=aa tA;clear tA;go_wp2_with fail;rw[fD];rw[jO];go_wp2_with fail;go_ret2;exact eh zN.out pB.out
        ·obtain⟨k,hk⟩: ∃k:Nat,X=(k:Int):=⟨X.toNat,by omega⟩;subst hk;have xa:Hid (vf s.data.toList=true↔pF*1≤N*10^k):=aa (by
          have h:=HX.out;rw[mq,show (-(k:Int)).toNat=0 by omega,pK]at h;exact h)
         go_wp2_with fail;have uY:jr (w2.alloc (.cells #[.int .u32 1] 184)) w2.heap.size (.slice (some ⟨w2.heap.size,0,none⟩) 1 1) [1]:=yz (e:=184) (size:=1) w2 #[.int .u32 1] 1 (aP _) (by unfold maxLen;omega) rfl;have aU:=(aS w2.heap.size w2).alloc (aP _) (.cells #[.int .u32 1] 184);refine(Fi (w2.alloc (.cells #[.int .u32 1] 184)) k (by omega)).mono ?_;rintro e w3 ⟨⟨v3,fs,rfl,f1,f2,f3,f4⟩,aM⟩;have cr:=aU.trans (aM.mono aU.size);have hfl:fs.length≤k+1:=mM f3 (by rw[f2];exact Gi k);have hp:Calls prog 130 #[.slice ao es.length cap,v3] w3 (iz w3 (aA es*aA fs)):=
          zq w3 _ v3 es fs (HI.out.1.below cr) f1.r HI.out.2.1 f4 (by omega) (by omega)
         rw[f2,HI.out.2.2.2.1]at hp;have HPR:=aa hp;have iR:=aa (HI.out.2.2.2.2.2.trans (cr.mono HI.out.2.2.2.2.2.size));have HD:=aa (uY.r.below aM);have HFL:=aa (show N*10^k<4294967296^(es.length+(k+1))by
          rw[←HI.out.2.2.2.1,dX];exact Ex (qk es HI.out.2.1) (Gi k))
         clear hp aU aM cr f1 f2 f3 f4 hfl uY;go_wp2_with fail;refine HPR.out.mono ?_;rintro e w4 ⟨⟨v4,gs,rfl,g1,g2,g3,g4⟩,gb⟩;have xh:gs.length≤es.length+(k+1):=mM g3 (by rw[g2];exact HFL.out);have hn:Calls prog 131 #[v4,.slice (some ⟨w2.heap.size,0,none⟩) 1 1] w4 (rQ w4 (aA gs) (aA [1])):=
          zx w4 v4 _ gs [1] g1.r (HD.out.below gb) g4 (fun d hd=>by simp at hd;omega) g3 (by omega) (by simp)
         rw[g2,show aA [1]=1 from rfl]at hn;have HNR:=aa hn;have afQ:=aa (iR.out.trans (gb.mono iR.out.size));clear hn gb g1 g2 g3 g4 xh;go_wp2_with fail;refine HNR.out.mono ?_;rintro e w5 ⟨b,rfl,n1,n2,n3⟩;have pB:=aa (afQ.out.trans (n3.mono afQ.out.size));have pC:=aa n2;clear n2 n3;unfold eW at n1;by_cases iJ:9218868437227405312≤b
         ·have p4:((9218868437227405312:Int)≤(b:Int))=True:=az (by omega);have tA:bH s.data.toList=21:=by rw[HE.out,ar (xa.out.2 (pC.out.1 iJ))]
          have zN:=aa tA;clear tA;go_wp2_with fail;go_ret2;exact eh zN.out pB.out
         ·have p4:((9218868437227405312:Int)≤(b:Int))=False:=bL (by omega);have tA:bH s.data.toList=0:=by rw[HE.out,af (fun h=>iJ (pC.out.2 (xa.out.1 h)))]
          have zN:=aa tA;clear tA;go_wp2_with fail;rw[fD];rw[jO];go_wp2_with fail;go_ret2;exact eh zN.out pB.out
   ·have hE:bH s.data.toList=0:=by rw[bH,af HL.out,AJ,ar (by simp)]
    have HE:=aa hE;clear hE;go_enter func113,ntmps113;go_wp2_with fail;refine(rT s w).mono ?_;rintro e w' ⟨rfl,d,rfl⟩;rw[ey];go_wp2_with fail;refine(wz s _).mono ?_;rintro e w' ⟨rfl,d2,rfl⟩;rw[AJ,jN];go_wp2_with fail;rw[fD];rw[jO];go_wp2_with fail;go_ret2;exact eh HE.out (bS (aS _ _) _)
  ·have hE:bH s.data.toList=0:=by rw[bH,af HL.out,ey,ar (by simp)]
   have HE:=aa hE;clear hE;go_enter func113,ntmps113;go_wp2_with fail;refine(rT s w).mono ?_;rintro e w' ⟨rfl,d,rfl⟩;rw[ey];go_wp2_with fail;rw[fD];rw[jO];go_wp2_with fail;go_ret2;exact eh HE.out (bS (aS _ _) _)
theorem eJ.from (h:eJ base w0 p s at' br sq v ts w) (hb:Below w.heap.size w w'):eJ base w0 p s at' br sq v ts w':=
 ⟨aH.below h.z hb h.z.lt,eL h.own hb,h.below.trans (hb.mono (jt (pI h.bp h.z.lt))),h.bp⟩
theorem eJ.fail (h:eJ base w0 p s at' br sq v ts w) {er:Nat} {y:Int} (hy:y=(er:Int)):LZ (w.setCell ⟨p,5,none⟩ (.int .i64 y)) p s at' br sq v er∧Below base w0 (w.setCell ⟨p,5,none⟩ (.int .i64 y)):=by
 subst hy;refine⟨?_,h.below.setCell (p:=⟨p,5,none⟩) h.bp _⟩;have:=aH.dw h.z 5 (.int .i64 (er:Int));simpa [LZ]using this
theorem Hd (l:List UInt8):bY l=(letter (an l (cu l))||digit (an l (cu l))||(an l (cu l)).toNat==46):=by
 unfold bY;by_cases h:cu l<l.length
 ·rw[dQ h,mA]
 ·rw[gp h,rr,Bs (by omega)];rfl
theorem zC (hk:kr l=k) (hn:cu l=n) (hE:iX l=E) (hc:an l n=c):
  bF l br sq=if E≠0∨letter c=true∨digit c=true∨c.toNat=46 then .bad 112 else .tok k n br sq:=by
 have hf:=Hd l;rw[hn,hc]at hf;by_cases h:letter c=true∨digit c=true∨c.toNat=46
 ·have hf2:bY l=true:=by
   rw[hf];rcases h with h|h|h<;>simp[h]
  rw[fC hf2,ar (.inr h)]
 ·have hf2:bY l=false:=by
   rw[hf];simp only[not_or,yC]at h;simp[h]
  by_cases tA:E=0
  ·rw[mU hk hn hf2 (by omega),af (by rintro(h2|h2)<;>first|exact h2 tA|exact h h2)]
  ·rw[kX hf2 (by omega),ar (.inl tA)]
theorem CA (w:World) (base p:Nat) (s:ByteArray) (at':Nat) (br sq:Bool) (v:Value) (ts:List Tok) (w0:World) (hs:s.size≤281474976710656) (cB:at'<s.size) (h:eJ base w0 p s at' br sq v ts w) (hlen:ts.length≤1099511627776):
  Calls prog 97 #[.pointer (some ⟨p,0,none⟩)] w (eR base w0 p s at' ts (bF (s.data.toList.drop at') br sq)):=by
 obtain⟨t,ht⟩: ∃t,t=s.extract at' s.size:=⟨_,rfl⟩;have qX:t.data.toList=s.data.toList.drop at':=by rw[ht,fW]
 have FG:t.size=s.size-at':=by rw[ht];simp
 obtain⟨Q,hQ⟩: ∃Q:Ending→World→Prop,Q=eR base w0 p s at' ts (bF (s.data.toList.drop at') br sq):=⟨_,rfl⟩;rw[←hQ];rw[←qX]at hQ;have c0:w.cell? ⟨p,0,none⟩=some (.string s):=by rw[h.z.cell];rfl
 have c1:w.cell? ⟨p,1,none⟩=some (.int .i64 (at':Int)):=by rw[h.z.cell];rfl
 have q1:((at':Int)≤(s.size:Int))=True:=by simp;omega
 have H:=aa h;have HQ:=aa hQ;have HT:=aa ht;have Od:=aa qX;have asI:t.size≤s.size:=by omega
 have HTS:=aa FG;clear h hQ qX FG ht;go_enter func97,ntmps97;go_wp2_with fail;go_quiet (fail);have HS:=aa (H.out.drewN nq);clear H c0 c1;generalize w.drewN nq=w2 at HS ⊢
 rw[←HT.out];clear HT;go_wp2_with fail;refine(uL t _ (by omega)).mono ?_;rintro e w3 ⟨rfl,rfl⟩;have zL:=ky t.data.toList;have AK:=qv t.data.toList;rw[ab]at zL AK;have gJ:=fun sp=>@Jv t.data.toList sp
 have qZ:=fun np=>@OU t.data.toList np
 obtain⟨d,hd⟩: ∃d,d=aW t.data.toList:=⟨_,rfl⟩;obtain⟨n,hn⟩: ∃n,n=ag t.data.toList:=⟨_,rfl⟩;rw[←hd]at zL ⊢
 rw[←hn]at AK;have HD:=aa hd;have HN:=aa hn;have Xp:=aa gJ;have Lt:=aa qZ;clear hd gJ qZ hn;go_wp2_with fail;refine(uJ t _ (by omega)).mono ?_;rintro e w3 ⟨rfl,rfl⟩;rw[←HN.out];by_cases au:n<d
 ·obtain⟨hk,hl,hb⟩:=Xp.out d HD.out.symm (by rw[←HN.out];exact au);obtain⟨u,hu⟩: ∃u,u=t.extract 0 d:=⟨_,rfl⟩;have hud:u.data.toList=t.data.toList.take d:=by rw[hu,fz]
  have hus:u.size≤s.size:=by rw[hu];simp;omega
  obtain⟨c,hc⟩: ∃c,c=an t.data.toList d:=⟨_,rfl⟩;obtain⟨E,hE⟩: ∃E,E=(bu u.data.toList).2:=⟨_,rfl⟩;have hR:=zC (br:=br) (sq:=sq) hk hl hb hc.symm;rw[←hud,←hE]at hR;have HR:=aa hR;have HU:=aa hu;have HA:Hid (∀w,Calls prog 96 #[.string t,.int .i64 (d:Int)] w fun e w'=>e= .returned (.int .u8 (c.toNat:Int))∧w=w'):=aa (fun w=>vS t _ d rfl c hc.symm w (by unfold maxLen;omega));have HP:Hid (∀w,Calls prog 112 #[.string u] w fun e w'=>e= .returned (.tuple #[.int .i64 ((bu u.data.toList).1:Nat),.int .i64 (E:Nat)])∧w=w'):=aa (fun w=>by rw[hE];exact Rb u w (by unfold maxLen;omega));clear hk hl hb hR hc hE hud hu;go_wp2_with fail;rw[←HU.out];refine(HP.out _).mono ?_;rintro e w3 ⟨rfl,rfl⟩;have f5:w2.frozen? ⟨p,5,none⟩=false:=HS.out.z.frozen 5;have c5:w2.cell? ⟨p,5,none⟩=some (.int .i64 0):=by rw[HS.out.z.cell];rfl
  go_wp2_with fail;refine(HA.out _).mono ?_;rintro e w3 ⟨rfl,rfl⟩;cases tA:((E:Int) != 0)
  ·cases hl:letter c
   ·cases hd:digit c
    ·cases oy:((c.toNat:Int)==46)
     ·have HK:Hid (bF t.data.toList br sq= .tok 4 d br sq):=aa (by
       rw[HR.out,af];rintro(h|h|h|h)
       ·exact h (AV tA)
       ·rw[hl]at h;cases h
       ·rw[hd]at h;cases h
       ·have:=kA oy;omega)
      go_wp2_with (first|(go_at_call 93;refine(dU c false hl _).mono ?_;rintro e w' ⟨rfl,rfl⟩)|(go_at_call 95;refine(fB c false hd _).mono ?_;rintro e w' ⟨rfl,rfl⟩));refine(bP w2 base p s at' 4 d _ _ (by rfl) rfl br sq v ts w0 hs (by have:=HTS.out;omega) (by omega) HS.out hlen).mono ?_;rintro e w5 ⟨rfl,iI⟩;have s8:=aa iI;clear iI;go_wp2_with fail;go_end0;rw[HQ.out,HK.out];exact⟨rfl,s8.out⟩
     ·have HB:Hid (bF t.data.toList br sq= .bad 112):=aa (by rw[HR.out,ar (.inr (.inr (.inr (by have:=js oy;omega))))]);go_wp2_with (first|(go_at_call 93;refine(dU c false hl _).mono ?_;rintro e w' ⟨rfl,rfl⟩)|(go_at_call 95;refine(fB c false hd _).mono ?_;rintro e w' ⟨rfl,rfl⟩));refine cz (pL rfl _ _ _) rfl ?_;rw[HQ.out,HB.out];exact⟨rfl,br,sq,v,(HS.out.fail rfl).1,(HS.out.fail rfl).2⟩
    ·have HB:Hid (bF t.data.toList br sq= .bad 112):=aa (by rw[HR.out,ar (.inr (.inr (.inl hd)))]);go_wp2_with (first|(go_at_call 93;refine(dU c false hl _).mono ?_;rintro e w' ⟨rfl,rfl⟩)|(go_at_call 95;refine(fB c true hd _).mono ?_;rintro e w' ⟨rfl,rfl⟩));refine cz (pL rfl _ _ _) rfl ?_;rw[HQ.out,HB.out];exact⟨rfl,br,sq,v,(HS.out.fail rfl).1,(HS.out.fail rfl).2⟩
   ·have HB:Hid (bF t.data.toList br sq= .bad 112):=aa (by rw[HR.out,ar (.inr (.inl hl))]);go_wp2_with (first|(go_at_call 93;refine(dU c true hl _).mono ?_;rintro e w' ⟨rfl,rfl⟩));refine cz (pL rfl _ _ _) rfl ?_;rw[HQ.out,HB.out];exact⟨rfl,br,sq,v,(HS.out.fail rfl).1,(HS.out.fail rfl).2⟩
  ·have HB:Hid (bF t.data.toList br sq= .bad 112):=aa (by rw[HR.out,ar (.inl (zX tA))]);go_wp2_with fail;refine cz (pL rfl _ _ _) rfl ?_;rw[HQ.out,HB.out];exact⟨rfl,br,sq,v,(HS.out.fail rfl).1,(HS.out.fail rfl).2⟩
 ·obtain⟨hk,hl,hb⟩:=Lt.out n HN.out.symm (by rw[←HD.out];exact au);obtain⟨u,hu⟩: ∃u,u=t.extract 0 n:=⟨_,rfl⟩;have hud:u.data.toList=t.data.toList.take n:=by rw[hu,fz]
  have hus:u.size≤s.size:=by rw[hu];simp;omega
  obtain⟨c,hc⟩: ∃c,c=an t.data.toList n:=⟨_,rfl⟩;obtain⟨E,hE⟩: ∃E,E=bH u.data.toList:=⟨_,rfl⟩;have hR:=zC (br:=br) (sq:=sq) hk hl hb hc.symm;rw[←hud,←hE]at hR;have HR:=aa hR;have HU:=aa hu;have HA:Hid (∀w,Calls prog 96 #[.string t,.int .i64 (n:Int)] w fun e w'=>e= .returned (.int .u8 (c.toNat:Int))∧w=w'):=aa (fun w=>vS t _ n rfl c hc.symm w (by unfold maxLen;omega));have HP:Hid (∀w:World,Calls prog 113 #[.string u] w fun e w'=> ∃x,e= .returned (.tuple #[.float .f64 x,.int .i64 (E:Int)])∧Below w.heap.size w w'):=aa (fun w=>by rw[hE];exact VH u w (by unfold maxLen;omega));clear hk hl hb hR hc hE hud hu;go_wp2_with fail;rw[←HU.out];refine(HP.out _).mono ?_;rintro e w3 ⟨x,rfl,cr⟩;replace HS:=aa (HS.out.from cr);clear cr;generalize w3=w2 at HS ⊢
  have f5:w2.frozen? ⟨p,5,none⟩=false:=HS.out.z.frozen 5;have c5:w2.cell? ⟨p,5,none⟩=some (.int .i64 0):=by rw[HS.out.z.cell];rfl
  go_wp2_with fail;refine(HA.out _).mono ?_;rintro e w3 ⟨rfl,rfl⟩;cases tA:((E:Int) != 0)
  ·cases hl:letter c
   ·cases hd:digit c
    ·cases oy:((c.toNat:Int)==46)
     ·have HK:Hid (bF t.data.toList br sq= .tok 3 n br sq):=aa (by
       rw[HR.out,af];rintro(h|h|h|h)
       ·exact h (AV tA)
       ·rw[hl]at h;cases h
       ·rw[hd]at h;cases h
       ·have:=kA oy;omega)
      go_wp2_with (first|(go_at_call 93;refine(dU c false hl _).mono ?_;rintro e w' ⟨rfl,rfl⟩)|(go_at_call 95;refine(fB c false hd _).mono ?_;rintro e w' ⟨rfl,rfl⟩));refine(bP w2 base p s at' 3 n _ _ (by rfl) rfl br sq v ts w0 hs (by have:=HTS.out;omega) (by omega) HS.out hlen).mono ?_;rintro e w5 ⟨rfl,iI⟩;have s8:=aa iI;clear iI;go_wp2_with fail;go_end0;rw[HQ.out,HK.out];exact⟨rfl,s8.out⟩
     ·have HB:Hid (bF t.data.toList br sq= .bad 112):=aa (by rw[HR.out,ar (.inr (.inr (.inr (by have:=js oy;omega))))]);go_wp2_with (first|(go_at_call 93;refine(dU c false hl _).mono ?_;rintro e w' ⟨rfl,rfl⟩)|(go_at_call 95;refine(fB c false hd _).mono ?_;rintro e w' ⟨rfl,rfl⟩));refine cz (pL rfl _ _ _) rfl ?_;rw[HQ.out,HB.out];exact⟨rfl,br,sq,v,(HS.out.fail rfl).1,(HS.out.fail rfl).2⟩
    ·have HB:Hid (bF t.data.toList br sq= .bad 112):=aa (by rw[HR.out,ar (.inr (.inr (.inl hd)))]);go_wp2_with (first|(go_at_call 93;refine(dU c false hl _).mono ?_;rintro e w' ⟨rfl,rfl⟩)|(go_at_call 95;refine(fB c true hd _).mono ?_;rintro e w' ⟨rfl,rfl⟩));refine cz (pL rfl _ _ _) rfl ?_;rw[HQ.out,HB.out];exact⟨rfl,br,sq,v,(HS.out.fail rfl).1,(HS.out.fail rfl).2⟩
   ·have HB:Hid (bF t.data.toList br sq= .bad 112):=aa (by rw[HR.out,ar (.inr (.inl hl))]);go_wp2_with (first|(go_at_call 93;refine(dU c true hl _).mono ?_;rintro e w' ⟨rfl,rfl⟩));refine cz (pL rfl _ _ _) rfl ?_;rw[HQ.out,HB.out];exact⟨rfl,br,sq,v,(HS.out.fail rfl).1,(HS.out.fail rfl).2⟩
  ·have HB:Hid (bF t.data.toList br sq= .bad 112):=aa (by rw[HR.out,ar (.inl (zX tA))]);go_wp2_with fail;refine cz (pL rfl _ _ _) rfl ?_;rw[HQ.out,HB.out];exact⟨rfl,br,sq,v,(HS.out.fail rfl).1,(HS.out.fail rfl).2⟩
theorem KA (w:World) (base p:Nat) (s:ByteArray) (at':Nat) (br sq:Bool) (v:Value) (ts:List Tok) (w0:World) (hs:s.size≤281474976710) (cB:at'<s.size) (h:eJ base w0 p s at' br sq v ts w) (hlen:ts.length≤1099511627776):
  Calls prog 98 #[.pointer (some ⟨p,0,none⟩)] w (eR base w0 p s at' ts (tf (s.data.toList.drop at') br sq)):=by
 obtain⟨L,hL⟩: ∃L,L=s.data.toList.drop at':=⟨_,rfl⟩;obtain⟨Q,hQ⟩: ∃Q:Ending→World→Prop,Q=eR base w0 p s at' ts (tf L br sq):=⟨_,rfl⟩;rw[←hL,←hQ];have c0:w.cell? ⟨p,0,none⟩=some (.string s):=by rw[h.z.cell];rfl
 have c1:w.cell? ⟨p,1,none⟩=some (.int .i64 (at':Int)):=by rw[h.z.cell];rfl
 have hle:=za s.data.toList at';rw[←hL]at hle;have hLl:L.length=s.size-at':=by rw[hL,mY,ab]
 have H:=aa h;have HQ:=aa hQ;have HL:=aa hL;clear h hQ hL;obtain⟨T,hT⟩: ∃T,T=bz s.data.toList at':=⟨_,rfl⟩;have HLI:Hid (∀w,Calls prog 114 #[.string s,.int .i64 (at':Int)] w fun e w'=>e= .returned (.tuple #[.int .i64 (jL T),.int .i64 (oc 10 T)])∧w=w'):=aa (fun w=>by rw[hT];exact kY s at' w (by omega));rw[←hT]at hle;clear hT;cases he:bz L 0 with
 |none=>
  rw[he]at hle;have hS:tf L br sq= .bad 111:=by rw[tf,he]
  have yt:=aa hS;simp only[Option.map_none]at hle;subst hle;simp only[jL,oc]at HLI;clear hS he hLl;go_enter func98,ntmps98;go_wp2_with fail;go_quiet ((go_at_call 114;exact Calls.quiet_of_same ((HLI.out _).mono fun _ _ ⟨h1,h2⟩=>⟨h1,h2.symm⟩)));have HS:=aa (H.out.drewN nq);have f5:(w.drewN nq).frozen? ⟨p,5,none⟩=false:=HS.out.z.frozen 5;have c5:(w.drewN nq).cell? ⟨p,5,none⟩=some (.int .i64 0):=by rw[HS.out.z.cell];rfl
  clear H c0 c1;generalize w.drewN nq=w2 at HS f5 c5 ⊢
  go_wp2_with fail;refine cz (pL rfl _ _ _) rfl ?_;rw[HQ.out,yt.out];exact⟨rfl,br,sq,v,(HS.out.fail rfl).1,(HS.out.fail rfl).2⟩
 |some n=>
  rw[he]at hle;have hn:=xQ he;have hS:tf L br sq=if (lM (L.take n)).1=0 then .tok 5 n br sq else .bad 111:=by rw[tf,he]
  simp only[Option.map_some]at hle;subst hle;simp only[jL,oc]at HLI;rw[hLl]at hn;have hxt:(s.extract at' (n+at')).data.toList=L.take n:=by
   rw[Lib.extract_data,HL.out,show n+at'-at'=n by omega]
  have Xs:(s.extract at' (n+at')).size≤281474976710:=by simp;omega
  obtain⟨R,hR⟩: ∃R,R=lM (L.take n):=⟨_,rfl⟩;obtain⟨uq,huq⟩: ∃uq,uq=R.1:=⟨_,rfl⟩;obtain⟨US,hUS⟩: ∃US:ByteArray,US=⟨R.2.toArray⟩:=⟨_,rfl⟩;have HUN:Hid (∀w:World,Calls prog 115 #[.string (s.extract at' (n+at'))] w fun e w'=>e= .returned (.tuple #[.string US,.int .i64 (uq:Int)])∧Below w.heap.size w w'):=aa (fun w=>by
   rw[hUS,huq,hR,←hxt];exact Kx _ w Xs)
  rw[←hR,←huq]at hS;have yt:=aa hS;have Lt:=aa hn;have hns:n+at'≤s.size:=by omega
  have r1:((at':Int)≤(n:Int)+(at':Int))=True:=by simp;omega
  have r2:((n:Int)+(at':Int)≤(s.size:Int))=True:=by simp;omega
  have r3:(0≤(n:Int)+(at':Int))=True:=by simp;omega
  have r4:((n:Int)+(at':Int)).toNat=n+at':=by omega
  clear hS he hLl hR huq hUS hxt Xs hn;go_enter func98,ntmps98;go_wp2_with fail;go_quiet ((go_at_call 114;exact Calls.quiet_of_same ((HLI.out _).mono fun _ _ ⟨h1,h2⟩=>⟨h1,h2.symm⟩)));have HS:=aa (H.out.drewN nq);have g0:(w.drewN nq).cell? ⟨p,0,none⟩=some (.string s):=by rw[HS.out.z.cell];rfl
  have g1:(w.drewN nq).cell? ⟨p,1,none⟩=some (.int .i64 (at':Int)):=by rw[HS.out.z.cell];rfl
  have Xt:p<(w.drewN nq).heap.size:=HS.out.z.lt;clear H c0 c1;generalize w.drewN nq=w3 at HS g0 g1 Xt ⊢
  go_wp2_with fail;go_region_held3 (fun w'=>w'.cell? ⟨p,0,none⟩=some (.string s)∧w'.cell? ⟨p,1,none⟩=some (.int .i64 (at':Int))) (first|go_keep) (first|(go_at_call 115;refine(HUN.out _).mono ?_;rintro e w4 ⟨rfl,fa⟩;have k0:w4.cell? ⟨p,0,none⟩=some (.string s):=(fa.cell (p:=⟨p,0,none⟩) Xt).trans g0;have k1:w4.cell? ⟨p,1,none⟩=some (.int .i64 (at':Int)):=(fa.cell (p:=⟨p,1,none⟩) Xt).trans g1;have pB:=aa fa;clear fa));have fa:=((aS w3.heap.size w3).drew).trans pB.out;have Hu:=aa (HS.out.from fa);have m1:w4.cell? ⟨p,1,none⟩=some (.int .i64 (at':Int)):=by rw[Hu.out.z.cell];rfl
  have f5:w4.frozen? ⟨p,5,none⟩=false:=Hu.out.z.frozen 5;have c5:w4.cell? ⟨p,5,none⟩=some (.int .i64 0):=by rw[Hu.out.z.cell];rfl
  clear fa pB g0 g1 HS;cases hu:((uq:Int) != 0)
  ·go_wp2_with fail;refine(bP w4 base p s at' 5 n _ _ (by rfl) (by first|rfl|omega) br sq v ts w0 (by omega) (by omega) (by omega) Hu.out hlen).mono ?_;rintro e w5 ⟨rfl,iI⟩;have s8:=aa iI;clear iI;go_wp2_with fail;go_end0;rw[HQ.out,yt.out,ar (AV hu)];exact⟨rfl,s8.out⟩
  ·go_wp2_with fail;refine cz (pL rfl _ _ _) rfl ?_;rw[HQ.out,yt.out,af (zX hu)];exact⟨rfl,br,sq,v,(Hu.out.fail rfl).1,(Hu.out.fail rfl).2⟩
def nD (c d:UInt8):Bool:=(c==61&&(d==61||d==126))||(c==33&&(d==61||d==126))||((c==60||c==62)&&d==61)
theorem acE (h:l≠[]):Hs l=nD (an l 0) (an l 1):=by
 match l,h with
 |[c],_=>simp[Hs,nD,an]
 |c::d::r,_=>
  have e0:an (c::d::r) 0=c:=rfl;have e1:an (c::d::r) 1=d:=rfl;rw[e0,e1,eE];simp only[Hs,nD,Tf,List.take_succ_cons,List.take_zero,dI,kF,tD,uk,cn,List.contains_iff_mem,gq,ny,jw,kE,iN];constructor
  ·rintro⟨_,h⟩;rcases h with⟨a,b⟩|⟨a,b⟩|⟨a,b⟩|⟨a,b⟩|⟨a,b⟩|⟨a,b⟩<;>simp[a,b]
  ·intro h;refine⟨by omega,?_⟩;rcases h with(⟨a,b|b⟩|⟨a,b|b⟩)|⟨a|a,b⟩<;>simp[a,b]
def AQ (c d:UInt8) (br sq:Bool):AU:=
 if nD c d=true then .tok 6 2 br sq
 else if c.toNat=123 then .tok 6 1 true sq
 else if c.toNat=125 then .tok 6 1 false sq
 else if c.toNat=91 then .tok 6 1 br true
 else if c.toNat=93 then .tok 6 1 br false
 else if LM.contains c.toNat=true then .tok 6 1 br sq
 else .bad 110
theorem agT (h:l≠[]) (br sq:Bool):sn l br sq=AQ (an l 0) (an l 1) br sq:=by
 rw[sn,AQ,acE h]
theorem eJ.aa7 (h:eJ base w0 p s at' br sq v ts w) (b:Bool):eJ base w0 p s at' b sq v ts (w.setCell ⟨p,2,none⟩ (.bool b)):=by
 refine⟨?_,aF h.own h.z (by decide) _,h.below.setCell (p:=⟨p,2,none⟩) h.bp _,h.bp⟩;have:=aH.dw h.z 2 (.bool b);simpa [LZ]using this
theorem eJ.aa8 (h:eJ base w0 p s at' br sq v ts w) (b:Bool):eJ base w0 p s at' br b v ts (w.setCell ⟨p,3,none⟩ (.bool b)):=by
 refine⟨?_,aF h.own h.z (by decide) _,h.below.setCell (p:=⟨p,3,none⟩) h.bp _,h.bp⟩;have:=aH.dw h.z 3 (.bool b);simpa [LZ]using this
set_option maxHeartbeats 8000000 in
theorem qz (w:World) (base p:Nat) (s:ByteArray) (at':Nat) (br sq:Bool) (v:Value) (ts:List Tok) (w0:World) (hs:s.size≤281474976710656) (cB:at'<s.size) (h:eJ base w0 p s at' br sq v ts w) (hlen:ts.length≤1099511627776):
  Calls prog 99 #[.pointer (some ⟨p,0,none⟩)] w (eR base w0 p s at' ts (sn (s.data.toList.drop at') br sq)):=by
 have bC:s.data.toList.drop at'≠[]:=by
  intro e;have:=bT List.length e;rw[mY,ab]at this;simp at this;omega
 rw[agT bC,gy,gy,iv,aq cB];obtain⟨c,aZ⟩: ∃c,s[at']=c:=⟨_,rfl⟩;obtain⟨d,hd⟩: ∃d,an s.data.toList (at'+1)=d:=⟨_,rfl⟩;rw[aZ,hd];obtain⟨Q,hQ⟩: ∃Q:AU→Ending→World→Prop,Q=eR base w0 p s at' ts:=⟨_,rfl⟩;rw[←hQ];have Xm:d.toNat≠0→at'+1<s.size:=by
  intro h0;rcases dD (at'+1) s.size with h1|h1
  ·exact h1
  ·rw[Bs (by rw[ab];exact h1)]at hd;rw[←hd]at h0;exact absurd rfl h0
 have HA:Hid (∀w,Calls prog 96 #[.string s,.int .i64 ((at':Int)+1)] w fun e w'=>e= .returned (.int .u8 (d.toNat:Int))∧w=w'):=aa (fun w=>vS s _ (at'+1) (by omega) d hd w (by unfold maxLen;omega));have c0:w.cell? ⟨p,0,none⟩=some (.string s):=by rw[h.z.cell];rfl
 have c1:w.cell? ⟨p,1,none⟩=some (.int .i64 (at':Int)):=by rw[h.z.cell];rfl
 have H:=aa h;have HQ:=aa hQ;have HD0:=aa Xm;have p2:(at':Int)<(s.size:Int):=by omega
 clear h hQ hd bC Xm;go_enter func99,ntmps99;go_wp2_with fail;go_quiet ((go_at_call 96;exact Calls.quiet_of_same ((HA.out _).mono fun _ _ ⟨h1,h2⟩=>⟨h1,h2.symm⟩)));have HS:=aa (H.out.drewN nq);clear H c0 c1 HA;generalize w.drewN nq=w2 at HS ⊢
 have qC:=aa aZ;have f2:w2.frozen? ⟨p,2,none⟩=false:=HS.out.z.frozen 2;have f3:w2.frozen? ⟨p,3,none⟩=false:=HS.out.z.frozen 3;have f5:w2.frozen? ⟨p,5,none⟩=false:=HS.out.z.frozen 5;have c2:w2.cell? ⟨p,2,none⟩=some (.bool br):=by rw[HS.out.z.cell];rfl
 have c3:w2.cell? ⟨p,3,none⟩=some (.bool sq):=by rw[HS.out.z.cell];rfl
 have c5:w2.cell? ⟨p,5,none⟩=some (.int .i64 0):=by rw[HS.out.z.cell];rfl
 clear aZ qC;by_cases abE:c.toNat=123
 ·have hc:=cD (n:=123) (by omega) abE;subst hc;have HR:Hid (AQ (UInt8.ofNat 123) d br sq= .tok 6 1 true sq):=aa rfl;go_wp2_with fail;refine(bP _ base p s at' 6 1 _ _ (by rfl) (by rfl) true sq v ts w0 hs (by omega) (by omega) (HS.out.aa7 true) hlen).mono ?_;rintro e w5 ⟨rfl,iI⟩;have s8:=aa iI;clear iI;go_wp2_with fail;go_end0;rw[HR.out,HQ.out];exact⟨rfl,s8.out⟩
 by_cases abF:c.toNat=125
 ·have hc:=cD (n:=125) (by omega) abF;subst hc;have HR:Hid (AQ (UInt8.ofNat 125) d br sq= .tok 6 1 false sq):=aa rfl;go_wp2_with fail;refine(bP _ base p s at' 6 1 _ _ (by rfl) (by rfl) false sq v ts w0 hs (by omega) (by omega) (HS.out.aa7 false) hlen).mono ?_;rintro e w5 ⟨rfl,iI⟩;have s8:=aa iI;clear iI;go_wp2_with fail;go_end0;rw[HR.out,HQ.out];exact⟨rfl,s8.out⟩
 by_cases h91:c.toNat=91
 ·have hc:=cD (n:=91) (by omega) h91;subst hc;have HR:Hid (AQ (UInt8.ofNat 91) d br sq= .tok 6 1 br true):=aa rfl;go_wp2_with fail;refine(bP _ base p s at' 6 1 _ _ (by rfl) (by rfl) br true v ts w0 hs (by omega) (by omega) (HS.out.aa8 true) hlen).mono ?_;rintro e w5 ⟨rfl,iI⟩;have s8:=aa iI;clear iI;go_wp2_with fail;go_end0;rw[HR.out,HQ.out];exact⟨rfl,s8.out⟩
 by_cases h93:c.toNat=93
 ·have hc:=cD (n:=93) (by omega) h93;subst hc;have HR:Hid (AQ (UInt8.ofNat 93) d br sq= .tok 6 1 br false):=aa rfl;go_wp2_with fail;refine(bP _ base p s at' 6 1 _ _ (by rfl) (by rfl) br false v ts w0 hs (by omega) (by omega) (HS.out.aa8 false) hlen).mono ?_;rintro e w5 ⟨rfl,iI⟩;have s8:=aa iI;clear iI;go_wp2_with fail;go_end0;rw[HR.out,HQ.out];exact⟨rfl,s8.out⟩
 by_cases oz:c.toNat=40∨c.toNat=41∨c.toNat=44∨c.toNat=58∨c.toNat=43∨c.toNat=45∨c.toNat=42∨c.toNat=47∨c.toNat=37∨c.toNat=94∨c.toNat=64
 ·rcases oz with h|h|h|h|h|h|h|h|h|h|h
  all_goals
   have hc:=cD (by omega) h;have HR:Hid (AQ c d br sq= .tok 6 1 br sq):=aa (by rw[hc];rfl);subst hc;go_wp2_with fail;refine(bP _ base p s at' 6 1 _ _ (by rfl) (by rfl) br sq v ts w0 hs (by omega) (by omega) HS.out hlen).mono ?_;rintro e w5 ⟨rfl,iI⟩;have s8:=aa iI;clear iI;go_wp2_with fail;go_end0;rw[HR.out,HQ.out];exact⟨rfl,s8.out⟩
 by_cases h61:c.toNat=61
 ·have hc:=cD (n:=61) (by omega) h61;subst hc;cases e1:((d.toNat:Int)==61)
  ·cases e2:((d.toNat:Int)==126)
   ·have HR:Hid (AQ (UInt8.ofNat 61) d br sq= .tok 6 1 br sq):=aa (by
     have n1:(d==61)=false:=bK.2 (pO (n:=61) (by omega) rfl e1);have n2:(d==126)=false:=bK.2 (pO (n:=126) (by omega) rfl e2);have:nD (UInt8.ofNat 61) d=false:=by simp[nD,n1,n2]
     rw[AQ,this];rfl)
    go_wp2_with fail;refine(bP _ base p s at' 6 1 _ _ (by rfl) (by rfl) br sq v ts w0 hs (by omega) (by omega) HS.out hlen).mono ?_;rintro e w5 ⟨rfl,iI⟩;have s8:=aa iI;clear iI;go_wp2_with fail;go_end0;rw[HR.out,HQ.out];exact⟨rfl,s8.out⟩
   ·have HR:Hid (AQ (UInt8.ofNat 61) d br sq= .tok 6 2 br sq):=aa (by
     have n2:d=126:=oD (n:=126) (by omega) rfl e2;rw[n2];rfl)
    go_wp2_with fail;refine(bP _ base p s at' 6 2 _ _ (by rfl) (by rfl) br sq v ts w0 hs (by have:=HD0.out (by have:=js e2;omega);omega) (by omega) HS.out hlen).mono ?_;rintro e w5 ⟨rfl,iI⟩;have s8:=aa iI;clear iI;go_wp2_with fail;refine cz (pL rfl _ _ _) rfl ?_;rw[HR.out,HQ.out];exact⟨rfl,s8.out⟩
  ·have HR:Hid (AQ (UInt8.ofNat 61) d br sq= .tok 6 2 br sq):=aa (by
    have n2:d=61:=oD (n:=61) (by omega) rfl e1;rw[n2];rfl)
   go_wp2_with fail;refine(bP _ base p s at' 6 2 _ _ (by rfl) (by rfl) br sq v ts w0 hs (by have:=HD0.out (by have:=js e1;omega);omega) (by omega) HS.out hlen).mono ?_;rintro e w5 ⟨rfl,iI⟩;have s8:=aa iI;clear iI;go_wp2_with fail;refine cz (pL rfl _ _ _) rfl ?_;rw[HR.out,HQ.out];exact⟨rfl,s8.out⟩
 by_cases h33:c.toNat=33
 ·have hc:=cD (n:=33) (by omega) h33;subst hc;cases e1:((d.toNat:Int)==61)
  ·cases e2:((d.toNat:Int)==126)
   ·have HR:Hid (AQ (UInt8.ofNat 33) d br sq= .bad 110):=aa (by
     have n1:(d==61)=false:=bK.2 (pO (n:=61) (by omega) rfl e1);have n2:(d==126)=false:=bK.2 (pO (n:=126) (by omega) rfl e2);have:nD (UInt8.ofNat 33) d=false:=by simp[nD,n1,n2]
     rw[AQ,this];rfl)
    have x1:((d.toNat:Int)=61)=False:=bL (kA e1);have x2:((d.toNat:Int)=126)=False:=bL (kA e2);have y1:((d.toNat:Int) != 61)=true:=by rw[bne,e1];rfl
    have y2:((d.toNat:Int) != 126)=true:=by rw[bne,e2];rfl
    go_wp2_with fail;refine cz (pL rfl _ _ _) rfl ?_;rw[HR.out,HQ.out];exact⟨rfl,br,sq,v,(HS.out.fail rfl).1,(HS.out.fail rfl).2⟩
   ·have HR:Hid (AQ (UInt8.ofNat 33) d br sq= .tok 6 2 br sq):=aa (by
     have n2:d=126:=oD (n:=126) (by omega) rfl e2;rw[n2];rfl)
    have x1:((d.toNat:Int)=61)=False:=bL (kA e1);have y1:((d.toNat:Int) != 61)=true:=by rw[bne,e1];rfl
    have y2:((d.toNat:Int) != 126)=false:=by rw[bne,e2];rfl
    go_wp2_with fail;refine(bP _ base p s at' 6 2 _ _ (by rfl) (by rfl) br sq v ts w0 hs (by have:=HD0.out (by have:=js e2;omega);omega) (by omega) HS.out hlen).mono ?_;rintro e w5 ⟨rfl,iI⟩;have s8:=aa iI;clear iI;go_wp2_with fail;refine cz (pL rfl _ _ _) rfl ?_;rw[HR.out,HQ.out];exact⟨rfl,s8.out⟩
  ·have HR:Hid (AQ (UInt8.ofNat 33) d br sq= .tok 6 2 br sq):=aa (by
    have n2:d=61:=oD (n:=61) (by omega) rfl e1;rw[n2];rfl)
   have y1:((d.toNat:Int) != 61)=false:=by rw[bne,e1];rfl
   go_wp2_with fail;refine(bP _ base p s at' 6 2 _ _ (by rfl) (by rfl) br sq v ts w0 hs (by have:=HD0.out (by have:=js e1;omega);omega) (by omega) HS.out hlen).mono ?_;rintro e w5 ⟨rfl,iI⟩;have s8:=aa iI;clear iI;go_wp2_with fail;refine cz (pL rfl _ _ _) rfl ?_;rw[HR.out,HQ.out];exact⟨rfl,s8.out⟩
 by_cases h60:c.toNat=60
 ·have hc:=cD (n:=60) (by omega) h60;subst hc;cases e1:((d.toNat:Int)==61)
  ·have HR:Hid (AQ (UInt8.ofNat 60) d br sq= .tok 6 1 br sq):=aa (by
    have n1:(d==61)=false:=bK.2 (pO (n:=61) (by omega) rfl e1);have:nD (UInt8.ofNat 60) d=false:=by simp[nD,n1]
    rw[AQ,this];rfl)
   go_wp2_with fail;refine(bP _ base p s at' 6 1 _ _ (by rfl) (by rfl) br sq v ts w0 hs (by omega) (by omega) HS.out hlen).mono ?_;rintro e w5 ⟨rfl,iI⟩;have s8:=aa iI;clear iI;go_wp2_with fail;go_end0;rw[HR.out,HQ.out];exact⟨rfl,s8.out⟩
  ·have HR:Hid (AQ (UInt8.ofNat 60) d br sq= .tok 6 2 br sq):=aa (by
    have n2:d=61:=oD (n:=61) (by omega) rfl e1;rw[n2];rfl)
   go_wp2_with fail;refine(bP _ base p s at' 6 2 _ _ (by rfl) (by rfl) br sq v ts w0 hs (by have:=HD0.out (by have:=js e1;omega);omega) (by omega) HS.out hlen).mono ?_;rintro e w5 ⟨rfl,iI⟩;have s8:=aa iI;clear iI;go_wp2_with fail;refine cz (pL rfl _ _ _) rfl ?_;rw[HR.out,HQ.out];exact⟨rfl,s8.out⟩
 by_cases h62:c.toNat=62
 ·have hc:=cD (n:=62) (by omega) h62;subst hc;cases e1:((d.toNat:Int)==61)
  ·have HR:Hid (AQ (UInt8.ofNat 62) d br sq= .tok 6 1 br sq):=aa (by
    have n1:(d==61)=false:=bK.2 (pO (n:=61) (by omega) rfl e1);have:nD (UInt8.ofNat 62) d=false:=by simp[nD,n1]
    rw[AQ,this];rfl)
   go_wp2_with fail;refine(bP _ base p s at' 6 1 _ _ (by rfl) (by rfl) br sq v ts w0 hs (by omega) (by omega) HS.out hlen).mono ?_;rintro e w5 ⟨rfl,iI⟩;have s8:=aa iI;clear iI;go_wp2_with fail;go_end0;rw[HR.out,HQ.out];exact⟨rfl,s8.out⟩
  ·have HR:Hid (AQ (UInt8.ofNat 62) d br sq= .tok 6 2 br sq):=aa (by
    have n2:d=61:=oD (n:=61) (by omega) rfl e1;rw[n2];rfl)
   go_wp2_with fail;refine(bP _ base p s at' 6 2 _ _ (by rfl) (by rfl) br sq v ts w0 hs (by have:=HD0.out (by have:=js e1;omega);omega) (by omega) HS.out hlen).mono ?_;rintro e w5 ⟨rfl,iI⟩;have s8:=aa iI;clear iI;go_wp2_with fail;refine cz (pL rfl _ _ _) rfl ?_;rw[HR.out,HQ.out];exact⟨rfl,s8.out⟩
 have HR:Hid (AQ c d br sq= .bad 110):=aa (by
  have g61:(c==61)=false:=bK.2 (fun e=>h61 (by rw[e];rfl));have g33:(c==33)=false:=bK.2 (fun e=>h33 (by rw[e];rfl));have g60:(c==60)=false:=bK.2 (fun e=>h60 (by rw[e];rfl));have g62:(c==62)=false:=bK.2 (fun e=>h62 (by rw[e];rfl));have h2:nD c d=false:=by simp[nD,g61,g33,g60,g62]
  have h1:LM.contains c.toNat=false:=by
   rw[Bool.eq_false_iff];intro h;simp only[LM,List.contains_iff_mem,gq,kE,iN]at h;omega
  rw[AQ,h2,af (by simp),af abE,af abF,af h91,af h93,h1];rfl)
 have asJ:((c.toNat:Int)==123)=false:=bK.2 (by omega);have asK:((c.toNat:Int)==125)=false:=bK.2 (by omega);have z91:((c.toNat:Int)==91)=false:=bK.2 (by omega);have z93:((c.toNat:Int)==93)=false:=bK.2 (by omega);have z40:((c.toNat:Int)==40)=false:=bK.2 (by omega);have z41:((c.toNat:Int)==41)=false:=bK.2 (by omega);have z44:((c.toNat:Int)==44)=false:=bK.2 (by omega);have z58:((c.toNat:Int)==58)=false:=bK.2 (by omega);have z43:((c.toNat:Int)==43)=false:=bK.2 (by omega);have z45:((c.toNat:Int)==45)=false:=bK.2 (by omega);have z42:((c.toNat:Int)==42)=false:=bK.2 (by omega);have z47:((c.toNat:Int)==47)=false:=bK.2 (by omega);have z37:((c.toNat:Int)==37)=false:=bK.2 (by omega);have z94:((c.toNat:Int)==94)=false:=bK.2 (by omega);have z64:((c.toNat:Int)==64)=false:=bK.2 (by omega);have z61:((c.toNat:Int)==61)=false:=bK.2 (by omega);have z33:((c.toNat:Int)==33)=false:=bK.2 (by omega);have z60:((c.toNat:Int)==60)=false:=bK.2 (by omega);have z62:((c.toNat:Int)==62)=false:=bK.2 (by omega);clear abE abF h91 h93 oz h61 h33 h60 h62;go_wp2_with fail;refine cz (pL rfl _ _ _) rfl ?_;rw[HR.out,HQ.out];exact⟨rfl,br,sq,v,(HS.out.fail rfl).1,(HS.out.fail rfl).2⟩
theorem JQ (w:World) (base p:Nat) (s:ByteArray) (at':Nat) (br sq:Bool) (v:Value) (ts:List Tok) (w0:World) (hs:s.size≤281474976710656) (cB:at'<s.size) (h:eJ base w0 p s at' br sq v ts w) (hlen:ts.length≤1099511627776)
  (hh:letter s[at']=true∨(s[at'].toNat=58∧(!br&& !sq)=true)):
  Calls prog 94 #[.pointer (some ⟨p,0,none⟩)] w (eR base w0 p s at' ts (aX (s.data.toList.drop at') br sq)):=by
 have hT:=U1 (l:=s.data.toList.drop at') (col:=(!br&& !sq)) rfl (by rw[gy,iv,aq cB];exact hh);rw[hT,GW];exact QY w base p s at' br sq v ts w0 hs cB h hlen _ rfl
theorem CB (hc:an l 0=c) (hl:letter c=false) (Sk:c.toNat≠58) (h:digit c=true∨(c.toNat=46∧digit (an l 1)=true)):aX l br sq=bF l br sq:=by
 subst hc;have h2:digit (an l 0)=true∨((an l 0).toNat=46∧1<l.length∧digit (an l 1)=true):=by
  rcases h with h|⟨h,h'⟩
  ·exact .inl h
  ·refine .inr ⟨h,?_,h'⟩;rcases dD 1 l.length with h1|h1
   ·exact h1
   ·rw[Bs h1]at h';exact absurd h' (by decide)
 rw[aX,hl,af (by simp),af (fun x=>Sk x.1),ar h2]
theorem KB (hc:an l 0=c) (h:c.toNat=34∨c.toNat=39∨c.toNat=96):aX l br sq=tf l br sq:=by
 subst hc;have aZ:an l 0=34∨an l 0=39∨an l 0=96:=by
  rcases h with h|h|h
  ·exact .inl (cD (n:=34) (by omega) h)
  ·exact .inr (.inl (cD (n:=39) (by omega) h))
  ·exact .inr (.inr (cD (n:=96) (by omega) h))
 have h1:letter (an l 0)=false:=by rcases aZ with e|e|e<;>(rw[e];decide)
 have h2:digit (an l 0)=false:=by rcases aZ with e|e|e<;>(rw[e];decide)
 have h3:dB (an l 0)=true:=by rcases aZ with e|e|e<;>(rw[e];decide)
 rw[aX,h1,af (by simp),af (by rintro⟨x,_⟩;omega),h2,af (fun x=>x.elim (fun y=>by cases y) (fun y=>by have:=y.1;omega)),ar h3]
theorem Mf (hc:an l 0=c) (hl:letter c=false) (Sk: ¬(c.toNat=58∧(!br&& !sq)=true)) (hd:digit c=false) (oy: ¬(c.toNat=46∧digit (an l 1)=true)) (h1:c.toNat≠34) (h2:c.toNat≠39) (h3:c.toNat≠96):aX l br sq=sn l br sq:=by
 subst hc;have hq: ¬dB (an l 0)=true:=by
  intro h;simp only[dB,tD,cn]at h;rcases h with(h|h)|h
  ·exact h1 (by rw[h];rfl)
  ·exact h2 (by rw[h];rfl)
  ·exact h3 (by rw[h];rfl)
 rw[aX,hl,af (by simp),af Sk,hd,af (fun x=>x.elim (fun y=>by cases y) (fun y=>oy ⟨y.1,y.2.2⟩)),af hq]
theorem Rn (c d:UInt8):(letter c=true)∨(letter c=false∧((c.toNat:Int)==58)=true∧digit c=false∧((c.toNat:Int)==46)=false∧((c.toNat:Int)==34)=false∧((c.toNat:Int)==39)=false∧((c.toNat:Int)==96)=false)∨(letter c=false∧((c.toNat:Int)==58)=false∧digit c=true)∨(letter c=false∧((c.toNat:Int)==58)=false∧digit c=false∧((c.toNat:Int)==46)=true∧((c.toNat:Int)==34)=false∧((c.toNat:Int)==39)=false∧((c.toNat:Int)==96)=false∧digit d=false)∨(letter c=false∧((c.toNat:Int)==58)=false∧digit c=false∧((c.toNat:Int)==46)=true∧((c.toNat:Int)==34)=false∧((c.toNat:Int)==39)=false∧((c.toNat:Int)==96)=false∧digit d=true)∨(letter c=false∧((c.toNat:Int)==58)=false∧digit c=false∧((c.toNat:Int)==46)=false∧((c.toNat:Int)==34)=true)∨(letter c=false∧((c.toNat:Int)==58)=false∧digit c=false∧((c.toNat:Int)==46)=false∧((c.toNat:Int)==34)=false∧((c.toNat:Int)==39)=true)∨(letter c=false∧((c.toNat:Int)==58)=false∧digit c=false∧((c.toNat:Int)==46)=false∧((c.toNat:Int)==34)=false∧((c.toNat:Int)==39)=false∧((c.toNat:Int)==96)=true)∨(letter c=false∧((c.toNat:Int)==58)=false∧digit c=false∧((c.toNat:Int)==46)=false∧((c.toNat:Int)==34)=false∧((c.toNat:Int)==39)=false∧((c.toNat:Int)==96)=false):=by
 cases hl:letter c
 ·by_cases tx:c.toNat=58
  ·simp[digit,tx]
  ·have n58:((c.toNat:Int)==58)=false:=bK.2 (by omega);cases hd:digit c
   ·by_cases so:c.toNat=46
    ·cases digit d<;>simp[so]
    ·have n46:((c.toNat:Int)==46)=false:=bK.2 (by omega);simp only[n58,n46];cases ((c.toNat:Int)==34)<;>cases ((c.toNat:Int)==39)<;>cases ((c.toNat:Int)==96)<;>simp
   ·simp[n58]
 ·exact .inl rfl
set_option maxHeartbeats 8000000 in
theorem VI (w:World) (s:ByteArray) (hs:s.size≤281474976710):
  Calls prog 73 #[.string s] w (fo w (eQ s.data.toList)):=by
 obtain⟨R,hR⟩: ∃R,R=eQ s.data.toList:=⟨_,rfl⟩;rw[←hR];by_cases agA:(33554432:Int)<(s.size:Int)
 ·have h2:R.2=some (0,1):=by rw[hR,eQ,ar (by rw[ab];omega)]
  have H2:=aa h2;clear h2 hR;go_enter func73,ntmps73;go_wp2_with fail;refine cz (iw rfl _ _ _) rfl ?_;exact fo.bad H2.out (aS _ _)
 ·have hRR:R=cE s.data.toList 0 false false:=by rw[hR,eQ,af (by rw[ab];omega)]
  have HR:=aa hRR;clear hR hRR;have Dp:=(aS w.heap.size w).alloc (aP _) (.cells #[.string s,.int .i64 0,.bool false,.bool false,.slice none 0 0,.int .i64 0] 151);have H0:Hid (eJ w.heap.size w w.heap.size s 0 false false (.slice none 0 0) [] (w.alloc (.cells #[.string s,.int .i64 0,.bool false,.bool false,.slice none 0 0,.int .i64 0] 151))):=
   aa ⟨aH.new w _ _,ur _ _ _ _,Dp,aP _⟩
  clear Dp;obtain⟨p,hp⟩: ∃p,p=w.heap.size:=⟨_,rfl⟩;go_enter func73,ntmps73;go_wp2_with fail;rw[←hp]at H0 ⊢
  have HP:=aa hp;clear hp;generalize (w.alloc (.cells #[.string s,.int .i64 0,.bool false,.bool false,.slice none 0 0,.int .i64 0] 151))=w1 at H0 ⊢
  go_loopw [6] (fun _ wr=> ∃(k:Nat) (br sq:Bool) (v:Value) (ts:List Tok),k≤s.size∧ts.length≤k∧Hid (eJ p w p s k br sq v ts wr)∧Hid (R=(ts++(cE (s.data.toList.drop k) k br sq).1,(cE (s.data.toList.drop k) k br sq).2))) (fun _ wr=>s.size-nA wr p)
  case atStart=>exact⟨0,false,false,_,[],aT _,aT _,H0,aa (by rw[HR.out];rfl)⟩
  case round=>
   obtain⟨k0,br,sq,v,ts,lI,FG,cA,hR⟩:=hrel;clear H0 HR;have hmu:nA wr p=k0:=qj cA.out.z;have HMU:=aa hmu;clear hmu;go_wp2_with fail;refine(QM wr p p s k0 br sq v ts w (by omega) lI cA.out).mono ?_;rintro e w2 ⟨rfl,k,lC,zM,Yc,hsc,yq⟩;have HS:=aa Yc;have HR:Hid (R=(ts++(cE (s.data.toList.drop k) k br sq).1,(cE (s.data.toList.drop k) k br sq).2)):=aa (by rw[hsc];exact hR.out);have NY:=aa yq;clear Yc hsc yq cA hR;have c1:w2.cell? ⟨p,1,none⟩=some (.int .i64 (k:Int)):=by rw[HS.out.z.cell];rfl
   have c2:w2.cell? ⟨p,2,none⟩=some (.bool br):=by rw[HS.out.z.cell];rfl
   have c3:w2.cell? ⟨p,3,none⟩=some (.bool sq):=by rw[HS.out.z.cell];rfl
   have c4:w2.cell? ⟨p,4,none⟩=some v:=by rw[HS.out.z.cell];rfl
   by_cases au:k<s.size
   ·obtain⟨nr,h35⟩:=NY.out au;obtain⟨L,hL⟩: ∃L,L=s.data.toList.drop k:=⟨_,rfl⟩;have hLl:L.length=s.size-k:=by rw[hL,mY,ab]
    have bC:L≠[]:=by intro e;rw[e]at hLl;simp at hLl;omega
    have xx:an L 0=s[k]:=by rw[hL,gy,iv,aq au]
    have rj:an L 1=an s.data.toList (k+1):=by rw[hL,gy]
    rw[←hL]at HR;obtain⟨c,hc⟩: ∃c,s[k]=c:=⟨_,rfl⟩;obtain⟨d,hd⟩: ∃d,an s.data.toList (k+1)=d:=⟨_,rfl⟩;rw[hc]at xx nr h35;rw[hd]at rj;have HA:Hid (∀w,Calls prog 96 #[.string s,.int .i64 ((k:Int)+1)] w fun e w'=>e= .returned (.int .u8 (d.toNat:Int))∧w=w'):=aa (fun w=>vS s _ (k+1) (by omega) d hd w (by unfold maxLen;omega));obtain⟨X,hX⟩: ∃X,X=aX L br sq:=⟨_,rfl⟩;have abG:Hid (∀kk n b q,X= .tok kk n b q→1≤n∧n≤s.size-k∧R=((ts++[⟨kk,L.take n,k⟩])++(cE (s.data.toList.drop (k+n)) (k+n) b q).1,(cE (s.data.toList.drop (k+n)) (k+n) b q).2)):=aa (by
     intro kk n b q hr;rw[hX]at hr;have pN:=jb bC hr;have hsf:=pd bC (by rw[xx];exact nr) (by rw[xx];exact h35) hr k;refine⟨pN.1,by omega,?_⟩;rw[HR.out,hsf,lj,hL,yF];rfl)
    have vg:Hid (∀er,X= .bad er→R.2=some (k,er)∧er≠0):=aa (by
     intro er hr;rw[hX]at hr;refine⟨by rw[HR.out,sG bC (by rw[xx];exact nr) (by rw[xx];exact h35) hr k],?_⟩;have:=uF hr;omega)
    have HX:=aa hX;have HL:=aa hL;have Qa:=aa xx;have afR:=aa rj;have HC:Hid (s[k]=c):=aa hc;have vh:ts.length≤1099511627776:=by omega
    have jf:s.size≤281474976710656:=by omega
    clear hL hLl bC xx rj hd nr h35 HR NY hX;rcases Rn c d with hl|⟨hl,tx,hd,z46,z34,z39,z96⟩|⟨hl,tx,hd⟩|⟨hl,tx,hd,so,z34,z39,z96,pE⟩|⟨hl,tx,hd,so,z34,z39,z96,pE⟩|⟨hl,tx,hd,so,e34⟩|⟨hl,tx,hd,so,e34,e39⟩|⟨hl,tx,hd,so,e34,e39,e96⟩|⟨hl,tx,hd,so,e34,e39,e96⟩
    case' inl=>
     have Ii:=aa (show Calls prog 94 #[.pointer (some ⟨p,0,none⟩)] w2 (eR p w p s k ts X)from by
      rw[HX.out,HL.out];exact JQ w2 p p s k br sq v ts w jf au HS.out vh (by rw[HC.out];exact .inl hl))
    case' inr.inl=>
     have HV:=aa (js tx);cases br<;>cases sq
    case' inr.inl.false.false=>
     have Ii:=aa (show Calls prog 94 #[.pointer (some ⟨p,0,none⟩)] w2 (eR p w p s k ts X)from by
      rw[HX.out,HL.out];exact JQ w2 p p s k _ _ v ts w jf au HS.out vh (by rw[HC.out];exact .inr ⟨by have:=HV.out;omega,rfl⟩))
    case' inr.inl.false.true|inr.inl.true.false|inr.inl.true.true=>
     have v58:=HV.out;have Ii:=aa (show Calls prog 99 #[.pointer (some ⟨p,0,none⟩)] w2 (eR p w p s k ts X)from by
      rw[HX.out,Mf Qa.out hl (by simp) hd (fun x=>by omega) (by omega) (by omega) (by omega),HL.out];exact qz w2 p p s k _ _ v ts w jf au HS.out vh)
    case' inr.inr.inl=>
     have Ii:=aa (show Calls prog 97 #[.pointer (some ⟨p,0,none⟩)] w2 (eR p w p s k ts X)from by
      rw[HX.out,CB Qa.out hl (by have:=kA tx;omega) (.inl hd),HL.out];exact CA w2 p p s k br sq v ts w jf au HS.out vh)
    case' inr.inr.inr.inl=>
     have Ii:=aa (show Calls prog 99 #[.pointer (some ⟨p,0,none⟩)] w2 (eR p w p s k ts X)from by
      rw[HX.out,Mf Qa.out hl (fun x=>by have:=kA tx;omega) hd (fun x=>by rw[afR.out,pE]at x;cases x.2) (by have:=js so;omega) (by have:=js so;omega) (by have:=js so;omega),HL.out];exact qz w2 p p s k br sq v ts w jf au HS.out vh)
    case' inr.inr.inr.inr.inl=>
     have Ii:=aa (show Calls prog 97 #[.pointer (some ⟨p,0,none⟩)] w2 (eR p w p s k ts X)from by
      rw[HX.out,CB Qa.out hl (by have:=kA tx;omega) (.inr ⟨by have:=js so;omega,by rw[afR.out];exact pE⟩),HL.out];exact CA w2 p p s k br sq v ts w jf au HS.out vh)
    case' inr.inr.inr.inr.inr.inl|inr.inr.inr.inr.inr.inr.inl|inr.inr.inr.inr.inr.inr.inr.inl=>
     have Ii:=aa (show Calls prog 98 #[.pointer (some ⟨p,0,none⟩)] w2 (eR p w p s k ts X)from by
      rw[HX.out,KB Qa.out (by first|(have:=js e34;omega)|(have:=js e39;omega)|(have:=js e96;omega)),HL.out];exact KA w2 p p s k br sq v ts w hs au HS.out vh)
    case' inr.inr.inr.inr.inr.inr.inr.inr=>
     have Ii:=aa (show Calls prog 99 #[.pointer (some ⟨p,0,none⟩)] w2 (eR p w p s k ts X)from by
      rw[HX.out,Mf Qa.out hl (fun x=>by have:=kA tx;omega) hd (fun x=>by have:=kA so;omega) (by have:=kA e34;omega) (by have:=kA e39;omega) (by have:=kA e96;omega),HL.out];exact qz w2 p p s k br sq v ts w jf au HS.out vh)
    all_goals (try clear v58)
    all_goals
     clear HX;go_wp2_with (first|(go_at_call 93;refine(dU c _ hl _).mono ?_;rintro e w' ⟨rfl,rfl⟩)|(go_at_call 95;refine(fB c _ hd _).mono ?_;rintro e w' ⟨rfl,rfl⟩)|(go_at_call 95;refine(fB d _ pE _).mono ?_;rintro e w' ⟨rfl,rfl⟩)|(go_at_call 96;refine(HA.out _).mono ?_;rintro e w' ⟨rfl,rfl⟩));refine Ii.out.mono ?_;rintro e w5 ⟨rfl,iI⟩;clear Ii c1 c2 c3 c4;cases X with
     |tok kk n b q=>
      obtain⟨v',To⟩:=iI;obtain⟨AK,xf,hR5⟩:=abG.out kk n b q rfl;rw[←HL.out]at To;have HS5:=aa To;have HR5:=aa hR5;have HM5:=aa (qj To.z);have c5:w5.cell? ⟨p,5,none⟩=some (.int .i64 0):=by rw[To.z.cell];rfl
      clear To hR5 abG vg HS;go_wp2_with fail;exact⟨⟨k+n,b,q,v',_,by omega,by rw[fT];simp;omega,HS5,HR5⟩,by rw[HM5.out,HMU.out];omega⟩
     |bad er=>
      obtain⟨b,q,v',Xy,mn⟩:=iI;obtain⟨hR5,al7⟩:=vg.out er rfl;have HR5:=aa hR5;have pC:Hid (Below w.heap.size w w5):=aa (by rw[←HP.out];exact mn);have c1:w5.cell? ⟨p,1,none⟩=some (.int .i64 (k:Int)):=by rw[Xy.cell];rfl
      have c5:w5.cell? ⟨p,5,none⟩=some (.int .i64 (er:Int)):=by rw[Xy.cell];rfl
      have y5:((er:Int) != 0)=true:=by rw[ju];omega
      clear Xy mn hR5 abG vg HS al7;go_wp2_with fail;go_region_held3 (fun w'=>w'.cell? ⟨p,1,none⟩=some (.int .i64 (k:Int))∧w'.cell? ⟨p,5,none⟩=some (.int .i64 (er:Int))) (first|go_keep) (first|fail);go_wp2_with fail;refine cz (iw rfl _ _ _) rfl ?_;exact fo.bad HR5.out pC.out.drew
   ·have tX:k=s.size:=by omega
    have h2:R=(ts,none):=by rw[HR.out,tX,Ol (by rw[ab];omega),sF,mu]
    have H2:=aa h2;clear h2 HR;go_wp2_with fail;refine cz (iw rfl _ _ _) rfl ?_;have h3:R.1=ts:=by rw[H2.out]
    exact fo.aft (by rw[H2.out]) (by rw[h3,←HP.out];exact HS.out.own) (by rw[←HP.out];exact HS.out.below)
theorem pq (w:World) (s:ByteArray) (hs:s.size≤1048576):
  Calls prog 52 #[.string s] w (ko w (fw s)):=by
 obtain⟨R,hR⟩: ∃R,R=eQ s.data.toList:=⟨_,rfl⟩;have hk:fw s=LP s.data.toList R:=by rw[hR];rfl
 have HK:=aa hk;have HR:=aa hR;have HE:=aa (show ∀a e,R.2=some (a,e)→e≠0 from fun a e h=>(zf (by rw[←hR];exact h)).1);have HL:Hid (R.1.length≤1048576):=aa (by
  have h1:=(zg s.data.toList).1;rw[←hR,ab]at h1;omega)
 clear hk hR;go_enter func52,ntmps52;go_wp2_with fail;refine(VI _ s (by omega)).mono ?_;intro e w2 hp;obtain⟨ao,ca,rfl,hoa,PJ,aM⟩:=hp.open;rw[←HR.out]at hoa PJ ⊢
 have HB:=aa aM;have Lv:=aa PJ;clear hoa PJ hp aM;obtain⟨ts,er⟩:=R;cases er with
 |some f=>
  obtain⟨a,c⟩:=f;have he:=HE a c rfl;have hc:((c:Int)==0)=false:=by rw[bK];omega
  have ng:((c:Int) != 0)=true:=by rw[bne,hc];rfl
  simp only[rH,yN,gL];have H0:Hid (fw s=0):=aa (by rw[HK.out];cases ts with|nil=>rfl|cons t ts=>cases ts<;>rfl);clear HK HE Lv HR HL;go_wp2_with fail;go_ret;exact⟨by rw[H0.out];rfl,HB⟩
 |none=>
  simp only[rH,yN,gL]at Lv ⊢
  obtain⟨ao',c',hv,hc⟩:=Lv.out;cases ts with
  |nil=>
   have H0:Hid (fw s=0):=aa (by rw[HK.out];rfl);clear HK HE Lv HR HL hv hc;go_wp2_with fail;go_ret;exact⟨by rw[H0.out];rfl,HB⟩
  |cons t ts=>
   cases ts with
   |cons t2 ts=>
    have H0:Hid (fw s=0):=aa (by rw[HK.out];rfl);have hl:((((t::t2::ts).length:Nat):Int)==1)=false:=by rw[bK];simp only[dI];omega
    have Ar:((((t::t2::ts).length:Nat):Int) != 1)=true:=by rw[bne,hl];rfl
    clear HK HE Lv HR HL hv hc;generalize (t::t2::ts).length=n at hl Ar ⊢
    go_wp2_with fail;go_ret;exact⟨by rw[H0.out];rfl,HB⟩
   |nil=>
    obtain⟨g,o,Sj,hg,h0,h1,h2⟩:=hc 0 (by simp);injection hv with SS Ht hv3
    subst SS Sj;simp only[mv,oI,IF,DI,yG,iv,dI,oB,mw]at h0 h1 h2 ⊢
    clear Ht hv3 hc Lv HR HE HL h2;by_cases he:t.text=s.data.toList
    ·have H0:Hid (fw s=t.kind):=aa (by rw[HK.out];simp[LP,he]);rw[he,mk_data]at h1;clear HK he;go_wp2_with fail;go_ret;exact⟨by rw[H0.out];rfl,HB⟩
    ·have H0:Hid (fw s=0):=aa (by rw[HK.out];simp[LP,he]);have bC: ¬(⟨t.text.toArray⟩:ByteArray)=s:=fun h=>he (by rw[←h])
     obtain⟨x,hx⟩: ∃x:ByteArray,x=⟨t.text.toArray⟩:=⟨_,rfl⟩;rw[←hx]at h1 bC;have Ya:(x.toList==s.toList)=false:=T8 bC;clear HK he hx bC;go_wp2_with fail;go_ret;exact⟨by rw[H0.out];rfl,HB⟩
theorem lT (w:World) (s:ByteArray) (hs:s.size≤1048576):
  Calls prog 56 #[.string s] w (aC w (fx s)):=by
 have HC:=aa (pq w s hs);have HD:Hid (fx s=(((fw s:Nat):Int)==4)):=aa (by unfold fx;rw[eE];simp;omega);go_enter func56,ntmps56;go_wp2_with fail;refine HC.mono ?_;rintro e w2 ⟨rfl,hb⟩;have HB:=aa hb;clear hb;go_wp2_with fail;go_ret;exact⟨by rw[HD.out];rfl,HB⟩
theorem Nl (w:World) (s:ByteArray) (hs:s.size≤1048576):
  Calls prog 50 #[.string s] w (aC w (ix s)):=by
 have HC:=aa (pq w s hs);have HD:Hid (ix s=(((fw s:Nat):Int)==3||((fw s:Nat):Int)==4)):=aa (by unfold ix;rw[eE];simp;omega);generalize fw s=k at HC HD;go_enter func50,ntmps50;go_wp2_with fail;refine HC.mono ?_;rintro e w2 ⟨rfl,hb⟩;have HB:=aa hb;clear hb HC;by_cases h3:k=3
 ·subst h3;go_wp2_with fail;go_ret;exact⟨by rw[HD.out];rfl,HB⟩
 ·have h3':((k:Int)==3)=false:=by rw[bK];omega
  clear h3;go_wp2_with fail;go_ret;exact⟨by rw[HD.out,h3'];rfl,HB⟩
theorem zD (w:World) (s:ByteArray) (hs:s.size≤1048576):Calls prog 53 #[.string s] w (aC w (word s.data.toList)):=by
 have HC:=aa (Uw s w (by unfold maxLen;omega));generalize word s.data.toList=b at HC ⊢
 go_enter func53,ntmps53;go_wp2_with fail;refine HC.mono ?_;rintro e w2 ⟨rfl,hb⟩;have HB:=aa hb;clear hb;go_wp2_with fail;go_ret;exact⟨rfl,HB⟩
theorem all_succ {α:Type} {l:List α} (h:j<l.length) (p:α→Bool):(l.take (j+1)).all p=((l.take j).all p&&p l[j]):=by rw[jM h,IS];simp
theorem Uh {α:Type} {l:List α} (h:j<l.length) {p:α→Bool} (hp:p l[j]=false):l.all p=false:=by
 rw[Ev];exact⟨_,gj h,by rw[hp];simp⟩
theorem uM (h:cL b w v ss) (hn:ss.length≤1048576) (hs: ∀s∈ss,s.size≤1048576):Calls prog 59 #[v] w (aC w (bG ss)):=by
 obtain⟨ao,c,rfl,hc⟩:=h;have HC:=aa hc;have HS:=aa hs;clear hc hs;go_enter func59,ntmps59;go_wp2_with fail;go_loopw [3] (fun t3 W=> ∃j:Nat,t3= .int .i64 (j:Int)∧Hid (j≤ss.length∧(ss.take j).all (fun s=>dO s.data.toList)=true∧Below w.heap.size w W)) (fun t3 _=>ss.length-(intOf t3).toNat)
 case atStart=>exact⟨0,rfl,aa ⟨aT _,rfl,aS _ _⟩⟩
 case round=>
  obtain⟨j,rfl,hI⟩:=hrel;by_cases au:j<ss.length
  ·have p1:((j:Int)<(ss.length:Int))=True:=az (by omega);obtain⟨g,o,rfl,_,hg,hx⟩:=HC.out j au;have c0:wr.cell? ⟨g,o+j,none⟩=some (.string ss[j]):=(hI.out.2.2.cell (p:=⟨g,_,none⟩) hg).trans hx;have hz:=HS.out ss[j] (gj au);obtain⟨bb,yp⟩: ∃bb,bb=dO ss[j].data.toList:=⟨_,rfl⟩;have Ii:Hid (∀W,Calls prog 75 #[.string ss[j]] W fun e w'=>e= .returned (.bool bb)∧W=w'):=aa fun W=>by rw[yp];exact yS ss[j] W (by unfold maxLen;omega)
   have sr:=aa (all_succ au (fun s=>dO s.data.toList));have HNO:Hid (bb=false→bG ss=false):=aa fun h=>Uh au (by rw[←yp,h])
   have fY:=aa yp;clear hx hz yp;cases bb
   ·go_wp2_with (go_at_call 75;(with_reducible refine(Ii.out _).mono ?_);rintro e w' ⟨rfl,rfl⟩);go_ret;exact⟨by rw[HNO.out (by first|rfl|trivial)];rfl,hI.out.2.2⟩
   ·go_wp2_with (go_at_call 75;(with_reducible refine(Ii.out _).mono ?_);rintro e w' ⟨rfl,rfl⟩);go_roundw
    case rel=>exact⟨j+1,by go_num,aa ⟨au,by rw[sr.out,hI.out.2.1,←fY.out];rfl,hI.out.2.2⟩⟩
    case measure=>simp[intOf];omega
  ·have p1:((j:Int)<(ss.length:Int))=False:=bL (by omega);have HF:Hid (bG ss=true):=aa (by have:=hI.out.2.1;rwa [DC (by omega)]at this);go_wp2_with fail;go_ret;exact⟨by rw[HF.out];rfl,hI.out.2.2⟩
theorem He (h:fU b w v ms) (hn:ms.length≤1048576) (hs: ∀m∈ms,m.name.size≤1048576∧m.value.size≤1048576):Calls prog 54 #[v] w (aC w (ms.all cF)):=by
 obtain⟨ao,c,rfl,hc⟩:=h;have HC:=aa hc;have HS:=aa hs;clear hc hs;go_enter func54,ntmps54;go_wp2_with fail;go_loopw [3] (fun t3 W=> ∃j:Nat,t3= .int .i64 (j:Int)∧Hid (j≤ms.length∧(ms.take j).all cF=true∧Below w.heap.size w W)) (fun t3 _=>ms.length-(intOf t3).toNat)
 case atStart=>exact⟨0,rfl,aa ⟨aT _,rfl,aS _ _⟩⟩
 case round=>
  obtain⟨j,rfl,hI⟩:=hrel;by_cases au:j<ms.length
  ·have p1:((j:Int)<(ms.length:Int))=True:=az (by omega);obtain⟨g,o,rfl,_,hg,γ,lg,ml⟩:=HC j au;have c0:wr.cell? ⟨g,o+j*3,none⟩=some (.string ms[j].name):=(hI.2.2.cell (p:=⟨g,_,none⟩) hg).trans γ;have c1:wr.cell? ⟨g,o+j*3+1,none⟩=some (.int .i64 ms[j].op):=(hI.2.2.cell (p:=⟨g,_,none⟩) hg).trans lg;have c2:wr.cell? ⟨g,o+j*3+2,none⟩=some (.string ms[j].value):=(hI.2.2.cell (p:=⟨g,_,none⟩) hg).trans ml;have hz:=HS ms[j] (gj au);have sr:=aa (all_succ au cF);have HNO:=aa fun(h:cF ms[j]=false)=>Uh au h
   obtain⟨m,hm⟩: ∃m,m=ms[j]:=⟨_,rfl⟩;rw[←hm]at c0 c1 c2 hz sr HNO;obtain⟨b1,aU⟩: ∃bb,bb=dO m.name.data.toList:=⟨_,rfl⟩;obtain⟨b2,aM⟩: ∃bb,bb=valid m.value.data.toList:=⟨_,rfl⟩;have Ii:Hid (∀W,Calls prog 75 #[.string m.name] W fun e w'=>e= .returned (.bool b1)∧W=w'):=aa fun W=>by rw[aU];exact yS m.name W (by unfold maxLen;omega)
   have HCV:Hid (∀W,Calls prog 51 #[.string m.value] W fun e w'=>e= .returned (.bool b2)∧Below W.heap.size W w'):=aa fun W=>by rw[aM];exact j6 m.value W (by omega)
   have HM:Hid (cF m=(b1&&decide (1≤m.op)&&decide (m.op≤4)&&b2)):=aa (by rw[aU,aM];rfl);obtain⟨op,Dl⟩: ∃op,op=m.op:=⟨_,rfl⟩;rw[←Dl]at c1 HM;clear γ lg ml hz hm aU aM Dl;rcases(show ((op<1)=True∧decide (1≤op)=false∧decide (op≤4)=true)∨((op<1)=False∧(4<op)=True∧decide (1≤op)=true∧decide (op≤4)=false)∨((op<1)=False∧(4<op)=False∧decide (1≤op)=true∧decide (op≤4)=true)by
    rcases Int.lt_or_le op 1 with h|h
    ·exact .inl ⟨az h,gp (by omega),dQ (by omega)⟩
    ·rcases Int.lt_or_le 4 op with h4|h4
     ·exact .inr (.inl ⟨bL (by omega),az h4,dQ h,gp (by omega)⟩)
     ·exact .inr (.inr ⟨bL (by omega),bL (by omega),dQ h,dQ h4⟩))with⟨q1,d1,d2⟩|⟨q1,q2,d1,d2⟩|⟨q1,q2,d1,d2⟩
   all_goals
    rw[d1,d2]at HM;clear d1 d2;cases b1<;>cases b2
   all_goals
    go_wp2_with (first|(go_at_call 75;(with_reducible refine(Ii.out _).mono ?_);rintro e w' ⟨rfl,rfl⟩)|(go_at_call 51;(with_reducible refine(HCV.out _).mono ?_);rintro e w2 ⟨rfl,hb⟩;have bD:=aa (hI.2.2.trans (hb.mono hI.2.2.size));clear hb))
    first
    |go_ret
     exact⟨by rw[HNO.out (by rw[HM.out];rfl)];rfl,by first|exact bD|exact hI.2.2⟩
    |go_roundw
     case rel=>exact⟨j+1,by go_num,aa ⟨au,by rw[sr.out,hI.out.2.1,HM.out];rfl,bD⟩⟩
     case measure=>simp[intOf];omega
  ·have p1:((j:Int)<(ms.length:Int))=False:=bL (by omega);have HF:Hid (ms.all cF=true):=aa (by have:=hI.2.1;rwa [DC (by omega)]at this);go_wp2_with fail;go_ret;exact⟨by rw[HF.out];rfl,hI.2.2⟩
theorem Fw (h:cL b w v ss) (hn:ss.length≤1048576):Calls prog 57 #[.string s,v] w fun e w'=>e= .returned (.bool (ss.any fun x=>x.data.toList==s.data.toList))∧w=w':=by
 obtain⟨ao,c,rfl,hc⟩:=h;have HC:=aa hc;clear hc;go_enter func57,ntmps57;go_wp2_with fail;go_loopw [5] (fun t5 W=> ∃j:Nat,t5= .int .i64 (j:Int)∧Hid (j≤ss.length∧(ss.take j).any (fun x=>x.data.toList==s.data.toList)=false)∧W=w) (fun t5 _=>ss.length-(intOf t5).toNat)
 case atStart=>exact⟨0,rfl,aa ⟨aT _,rfl⟩,rfl⟩
 case round=>
  obtain⟨j,rfl,hI,rfl⟩:=hrel;by_cases au:j<ss.length
  ·have p1:((j:Int)<(ss.length:Int))=True:=az (by omega);obtain⟨g,o,rfl,_,hg,hx⟩:=HC.out j au;have sr:Hid ((ss.take (j+1)).any (fun x=>x.data.toList==s.data.toList)=((ss.take j).any (fun x=>x.data.toList==s.data.toList)||(ss[j].data.toList==s.data.toList))):=aa (by rw[jM au,List.any_append];simp);have afS:Hid ((ss[j].data.toList==s.data.toList)=true→ss.any (fun x=>x.data.toList==s.data.toList)=true):=aa fun h=>List.any_eq_true.2 ⟨_,gj au,h⟩
   have he:(ss[j].toList==s.toList)=(ss[j].data.toList==s.data.toList):=by rw[nW,nW]
   have HE:=aa he;generalize ss[j]=x at hx sr afS he HE;rcases IE (x.data.toList==s.data.toList)with hb|hb
   all_goals
    rw[hb]at he;have HB:=aa hb;clear hb
   ·have Xs:x=s:=by have:=cn.1 HB.out;rw[←mk_data x,←mk_data s,this]
    subst Xs;go_wp2_with fail;go_ret;exact⟨by rw[afS.out HB.out];rfl,rfl⟩
   ·go_wp2_with fail;go_roundw
    case rel=>exact⟨j+1,by go_num,aa ⟨au,by rw[sr.out,hI.out.2,HB.out];rfl⟩,by first|rfl|trivial⟩
    case measure=>simp[intOf];omega
  ·have p1:((j:Int)<(ss.length:Int))=False:=bL (by omega);have HF:Hid (ss.any (fun x=>x.data.toList==s.data.toList)=false):=aa (by have:=hI.out.2;rwa [DC (by omega)]at this);go_wp2_with fail;go_ret;exact⟨by rw[HF.out];rfl,rfl⟩
