import Derived.Test.YtcdoilkjmjbgmaaGreatDoorR18
import Derived.Test.YtcdoilkjmjbgmaaGreatDoorR22
import Derived.Test.YtcdoilkjmjbgmaaGreatDoorR21
import Derived.Test.YtcdoilkjmjbgmaaGreatDoorR16
/- Part of the proof of YtcdoilkjmjbgmaaGreatDoorCardR: RbO RdE RdF RdG RdH TvA TvB. -/
set_option maxRecDepth 100000
set_option maxHeartbeats 4000000
set_option linter.unusedVariables false
set_option linter.unusedSimpArgs false
namespace Go.Proofs.YtcdoilkjmjbgmaaGreatDoor
open Go.RowKit
open Go.Proofs.Tryz
variable {w w' w0:World} {l:List UInt8} {x n base p at' k E j b:Nat} {s:ByteArray} {br sq:Bool} {v:Value} {ts:List Tok} {c:UInt8} {ss:List ByteArray} {ms:List PM}
def Pq (w:World) (l:List UInt8) (e:Ending) (w':World):Prop:=
 ∃x,e= .returned (.tuple #[.float .f64 x,.int .i64 (bK l:Int)])∧Below w.heap.size w w'
theorem sb (s:ByteArray) (w:World):Calls prog 126 #[.string s,.string {data:=#[105,110,102]}] w fun e w'=>e= .returned (.bool (dE s.data.toList 105 110 102))∧ ∃d,w'=w.drewN d:=
 J3 s {data:=#[105,110,102]} w rfl (by decide) _ (Po s 105 110 102 (by decide) (by decide) (by decide))
theorem wS (s:ByteArray) (w:World):Calls prog 126 #[.string s,.string {data:=#[110,97,110]}] w fun e w'=>e= .returned (.bool (dE s.data.toList 110 97 110))∧ ∃d,w'=w.drewN d:=
 J3 s {data:=#[110,97,110]} w rfl (by decide) _ (Po s 110 97 110 (by decide) (by decide) (by decide))
theorem eo (h:bK l=n) (hb:Below w.heap.size w w'):Pq w l (.returned (.tuple #[.float .f64 x,.int .i64 (n:Int)])) w':=⟨x,by rw[h],hb⟩
theorem Vv (s:ByteArray) (w:World) (hs:s.size≤maxLen):
  Calls prog 113 #[.string s] w (Pq w s.data.toList):=by
 unfold maxLen at hs;by_cases h1:512<s.size
 ·have hE:bK s.data.toList=1:=by rw[bK,au (by rw[ab];exact h1)]
  have HE:=aa hE;clear hE;go_enter func113,ntmps113;go_wp2_with fail;go_ret2;exact eo HE.out (aV _ _)
 ·have HL:Hid (¬512<s.data.toList.length):=aa (by rw[ab];exact h1);cases ej:dE s.data.toList 105 110 102
  ·cases xu:dE s.data.toList 110 97 110
   ·by_cases DO:s.data.toList=[]∨ag s.data.toList≠s.data.toList.length
    ·have hE:bK s.data.toList=20:=by rw[bK,af HL.out,ej,xu,af (by simp),au DO]
     have HE:=aa hE;clear hE;by_cases hz:s.size=0
     ·go_enter func113,ntmps113;go_wp2_with fail;refine(sb s w).mono ?_;rintro e w' ⟨rfl,d,rfl⟩;rw[ej];go_wp2_with fail;refine(wS s _).mono ?_;rintro e w' ⟨rfl,d2,rfl⟩;rw[xu,jV];go_wp2_with fail;go_ret2;exact eo HE.out (cr (aV _ _) _)
     ·have Ip: ¬ag s.data.toList=s.size:=by
       rcases DO with h|h
       ·exact absurd (by rw[←ab,h];rfl) hz
       ·rwa [ab]at h
      obtain⟨np,ab5⟩: ∃n,n=ag s.data.toList:=⟨_,rfl⟩;have Zq:=aa ab5;rw[←ab5]at Ip;clear DO ab5;have p1:((np:Int) != (s.size:Int))=true:=jA.2 (by omega);have p2:((s.size:Int)==0)=false:=bN.2 (by omega);go_enter func113,ntmps113;go_wp2_with fail;refine(sb s w).mono ?_;rintro e w' ⟨rfl,d,rfl⟩;rw[ej];go_wp2_with fail;refine(wS s _).mono ?_;rintro e w' ⟨rfl,d2,rfl⟩;rw[xu,jV];go_wp2_with (go_at_call 111;refine(uW s _ (by omega)).mono ?_;rintro e w' ⟨rfl,rfl⟩;rw[←Zq.out]);go_ret2;exact eo HE.out (cr (aV _ _) _)
    ·rw[not_or,Decidable.not_not]at DO;obtain⟨bZ,Ip⟩:=DO;have hE:bK s.data.toList=if vI s.data.toList=true then 21 else 0:=by rw[bK,af HL.out,ej,xu,af (by simp),af (by rw[not_or,Decidable.not_not];exact⟨bZ,Ip⟩)]
     have HE:=aa hE;have HV:=aa (verdict Ip bZ (Nat.le_of_not_lt HL.out));have HB:=aa (Vf Ip bZ (Nat.le_of_not_lt HL.out));have Zq:=aa (And.intro Ip bZ);have hz: ¬s.size=0:=by rw[←ab];exact fun h=>bZ (pv.1 h)
     clear hE;have Ad: ∀w1,Calls prog 128 #[.string s] w1 (wR w1 s.size (nN s.data.toList) (nX s.data.toList)):=fun w1=>Nq s w1 (by omega) Ip bZ
     have ab6:=aa Ad;clear Ad;have aeZ:ag s.data.toList=s.size:=by rw[Ip,ab]
     have ak2:=aa aeZ;clear Ip bZ aeZ;generalize hX:nX s.data.toList=X at HV HB ab6;generalize hN:nN s.data.toList=N at HV ab6;clear hX hN;have bX:=HB.out;have p2:((s.size:Int)==0)=false:=bN.2 (by omega);go_enter func113,ntmps113;go_wp2_with fail;refine(sb s w).mono ?_;rintro e w' ⟨rfl,d,rfl⟩;rw[ej];go_wp2_with fail;refine(wS s _).mono ?_;rintro e w' ⟨rfl,d2,rfl⟩;rw[xu,jV];go_wp2_with (go_at_call 111;refine(uW s _ (by omega)).mono ?_;rintro e w' ⟨rfl,rfl⟩;rw[ak2.out]);refine(ab6.out _).mono ?_;rintro e w2 ⟨v,es,rfl,hI⟩;have bQ:Below w.heap.size w w2:=(cr (aV _ w) _).trans hI.below;obtain⟨ao,cap,rfl,fp⟩:=hI.r;have PL:pN w2 (.slice ao es.length cap) es:=⟨ao,cap,rfl,fp⟩;have HI:=aa (And.intro PL (And.intro hI.ok (And.intro hI.norm (And.intro hI.val (And.intro hI.len bQ)))));have bl:es.length≤s.size:=hI.len;clear hI bQ fp PL;by_cases he0:es.length=0
     ·have p3:((es.length:Int)==0)=true:=cC.2 (by omega);have tl:N=0:=by rw[←HI.out.2.2.2.1,pv.1 he0];rfl
      have tM:bK s.data.toList=0:=by rw[HE.out,HV.out.1 tl,af (by simp)]
      have zV:=aa tM;clear tM tl;go_wp2_with fail;go_ret2;exact eo zV.out HI.out.2.2.2.2.2
     ·have p3:((es.length:Int)==0)=false:=bN.2 (by omega);have tl:N≠0:=by
       have:=GM HI.out.2.2.1 (by omega);rw[←HI.out.2.2.2.1];have h4:0<4294967296^(es.length-1):=fb (by decide);omega
      have HN0:=aa tl;clear tl;by_cases lC:400<X
      ·have tM:bK s.data.toList=21:=by rw[HE.out,HV.out.2.1 HN0.out lC,au rfl]
       have zV:=aa tM;clear tM;go_wp2_with fail;go_ret2;exact eo zV.out HI.out.2.2.2.2.2
      ·by_cases mx:X< -1000
       ·have tM:bK s.data.toList=0:=by rw[HE.out,HV.out.2.2.1 mx,af (by simp)]
        have zV:=aa tM;clear tM;go_wp2_with fail;go_ret2;exact eo zV.out HI.out.2.2.2.2.2
       ·have HX:=aa (HV.out.2.2.2 (by omega) (by omega));by_cases ZH:X<0
        ·obtain⟨k,hk⟩: ∃k:Nat,X= -(k:Int):=⟨(-X).toNat,by omega⟩;subst hk;have q6:(-(-(k:Int)))=(k:Int):=by omega
         have xv:Hid (vI s.data.toList=true↔pj*10^k≤N):=aa (by
          have h:=HX.out;rw[Int.neg_neg,my,show (-(k:Int)).toNat=0 by omega,pA,ow]at h;exact h)
         go_wp2_with fail;have aW:=(aV w2.heap.size w2).alloc (aS _) (.cells #[.int .u32 1] 184);refine(Fs (w2.alloc (.cells #[.int .u32 1] 184)) k (by omega)).mono ?_;rintro e w3 ⟨⟨v3,fs,rfl,f1,f2,f3,f4⟩,aN⟩;have bW:=aW.trans (aN.mono aW.size);have hfl:fs.length≤k+1:=mL f3 (by rw[f2];exact Gu k);have hn:Calls prog 131 #[.slice ao es.length cap,v3] w3 (r5 w3 (aC es) (aC fs)):=
          zJ w3 _ v3 es fs (HI.out.1.below bW) f1.r HI.out.2.1 f4 HI.out.2.2.1 (by omega) (by omega)
         rw[f2,HI.out.2.2.2.1]at hn;have HNR:=aa hn;have iF:=aa (HI.out.2.2.2.2.2.trans (bW.mono HI.out.2.2.2.2.2.size));clear hn aW aN bW f1 f2 f3 f4 hfl;go_wp2_with fail;refine HNR.out.mono ?_;rintro e w4 ⟨b,rfl,n1,n2,n3⟩;have pb:=aa (iF.out.trans (n3.mono iF.out.size));have pc:=aa n2;clear n2 n3;unfold fa at n1;by_cases iL:9218868437227405312≤b
         ·have p4:((9218868437227405312:Int)≤(b:Int))=True:=aA (by omega);have tM:bK s.data.toList=21:=by rw[HE.out,au (xv.out.2 (pc.out.1 iL))]
          have zV:=aa tM;clear tM;go_wp2_with fail;go_ret2;exact eo zV.out pb.out
         ·have p4:((9218868437227405312:Int)≤(b:Int))=False:=bU (by omega);have tM:bK s.data.toList=0:=by rw[HE.out,af (fun h=>iL (pc.out.2 (xv.out.1 h)))]
          have zV:=aa tM;clear tM;go_wp2_with fail;rw[fL];rw[jX];go_wp2_with fail;go_ret2;exact eo zV.out pb.out
        ·obtain⟨k,hk⟩: ∃k:Nat,X=(k:Int):=⟨X.toNat,by omega⟩;subst hk;have xv:Hid (vI s.data.toList=true↔pj*1≤N*10^k):=aa (by
          have h:=HX.out;rw[my,show (-(k:Int)).toNat=0 by omega,pA]at h;exact h)
         go_wp2_with fail;have vu:jv (w2.alloc (.cells #[.int .u32 1] 184)) w2.heap.size (.slice (some ⟨w2.heap.size,0,none⟩) 1 1) [1]:=yM (e:=184) (size:=1) w2 #[.int .u32 1] 1 (aS _) (by unfold maxLen;omega) rfl;have aW:=(aV w2.heap.size w2).alloc (aS _) (.cells #[.int .u32 1] 184);refine(Fs (w2.alloc (.cells #[.int .u32 1] 184)) k (by omega)).mono ?_;rintro e w3 ⟨⟨v3,fs,rfl,f1,f2,f3,f4⟩,aN⟩;have bW:=aW.trans (aN.mono aW.size);have hfl:fs.length≤k+1:=mL f3 (by rw[f2];exact Gu k);have hp:Calls prog 130 #[.slice ao es.length cap,v3] w3 (iy w3 (aC es*aC fs)):=
          zE w3 _ v3 es fs (HI.out.1.below bW) f1.r HI.out.2.1 f4 (by omega) (by omega)
         rw[f2,HI.out.2.2.2.1]at hp;have HPR:=aa hp;have iF:=aa (HI.out.2.2.2.2.2.trans (bW.mono HI.out.2.2.2.2.2.size));have HD:=aa (vu.r.below aN);have HFL:=aa (show N*10^k<4294967296^(es.length+(k+1))by
          rw[←HI.out.2.2.2.1,ee];exact EE (qb es HI.out.2.1) (Gu k))
         clear hp aW aN bW f1 f2 f3 f4 hfl vu;go_wp2_with fail;refine HPR.out.mono ?_;rintro e w4 ⟨⟨v4,gs,rfl,g1,g2,g3,g4⟩,gb⟩;have yE:gs.length≤es.length+(k+1):=mL g3 (by rw[g2];exact HFL.out);have hn:Calls prog 131 #[v4,.slice (some ⟨w2.heap.size,0,none⟩) 1 1] w4 (r5 w4 (aC gs) (aC [1])):=
          zJ w4 v4 _ gs [1] g1.r (HD.out.below gb) g4 (fun d hd=>by simp at hd;omega) g3 (by omega) (by simp)
         rw[g2,show aC [1]=1 from rfl]at hn;have HNR:=aa hn;have af0:=aa (iF.out.trans (gb.mono iF.out.size));clear hn gb g1 g2 g3 g4 yE;go_wp2_with fail;refine HNR.out.mono ?_;rintro e w5 ⟨b,rfl,n1,n2,n3⟩;have pb:=aa (af0.out.trans (n3.mono af0.out.size));have pc:=aa n2;clear n2 n3;unfold fa at n1;by_cases iL:9218868437227405312≤b
         ·have p4:((9218868437227405312:Int)≤(b:Int))=True:=aA (by omega);have tM:bK s.data.toList=21:=by rw[HE.out,au (xv.out.2 (pc.out.1 iL))]
          have zV:=aa tM;clear tM;go_wp2_with fail;go_ret2;exact eo zV.out pb.out
         ·have p4:((9218868437227405312:Int)≤(b:Int))=False:=bU (by omega);have tM:bK s.data.toList=0:=by rw[HE.out,af (fun h=>iL (pc.out.2 (xv.out.1 h)))]
          have zV:=aa tM;clear tM;go_wp2_with fail;rw[fL];rw[jX];go_wp2_with fail;go_ret2;exact eo zV.out pb.out
   ·have hE:bK s.data.toList=0:=by rw[bK,af HL.out,xu,au (by simp)]
    have HE:=aa hE;clear hE;go_enter func113,ntmps113;go_wp2_with fail;refine(sb s w).mono ?_;rintro e w' ⟨rfl,d,rfl⟩;rw[ej];go_wp2_with fail;refine(wS s _).mono ?_;rintro e w' ⟨rfl,d2,rfl⟩;rw[xu,jV];go_wp2_with fail;rw[fL];rw[jX];go_wp2_with fail;go_ret2;exact eo HE.out (cr (aV _ _) _)
  ·have hE:bK s.data.toList=0:=by rw[bK,af HL.out,ej,au (by simp)]
   have HE:=aa hE;clear hE;go_enter func113,ntmps113;go_wp2_with fail;refine(sb s w).mono ?_;rintro e w' ⟨rfl,d,rfl⟩;rw[ej];go_wp2_with fail;rw[fL];rw[jX];go_wp2_with fail;go_ret2;exact eo HE.out (cr (aV _ _) _)
theorem eO.from (h:eO base w0 p s at' br sq v ts w) (hb:Below w.heap.size w w'):eO base w0 p s at' br sq v ts w':=
 ⟨aK.below h.z hb h.z.lt,eV h.own hb,h.below.trans (hb.mono (ju (pw h.bp h.z.lt))),h.bp⟩
theorem eO.fail (h:eO base w0 p s at' br sq v ts w) {er:Nat} {y:Int} (hy:y=(er:Int)):LZ (w.setCell ⟨p,5,none⟩ (.int .i64 y)) p s at' br sq v er∧Below base w0 (w.setCell ⟨p,5,none⟩ (.int .i64 y)):=by
 subst hy;refine⟨?_,h.below.setCell (p:=⟨p,5,none⟩) h.bp _⟩;have:=aK.bT h.z 5 (.int .i64 (er:Int));simpa [LZ]using this
theorem Hq (l:List UInt8):cx l=(letter (aq l (cH l))||digit (aq l (cH l))||(aq l (cH l)).toNat==46):=by
 unfold cx;by_cases h:cH l<l.length
 ·rw[dR h,mC]
 ·rw[gA h,rA,Bz (by omega)];rfl
theorem zN (hk:kG l=k) (hn:cH l=n) (hE:iX l=E) (hc:aq l n=c):
  bI l br sq=if E≠0∨letter c=true∨digit c=true∨c.toNat=46 then .bad 112 else .tok k n br sq:=by
 have hf:=Hq l;rw[hn,hc]at hf;by_cases h:letter c=true∨digit c=true∨c.toNat=46
 ·have hf2:cx l=true:=by
   rw[hf];rcases h with h|h|h<;>simp[h]
  rw[fK hf2,au (.inr h)]
 ·have hf2:cx l=false:=by
   rw[hf];simp only[not_or,yP]at h;simp[h]
  by_cases tM:E=0
  ·rw[mR hk hn hf2 (by omega),af (by rintro(h2|h2)<;>first|exact h2 tM|exact h h2)]
  ·rw[ln hf2 (by omega),au (.inl tM)]
theorem CT (w:World) (base p:Nat) (s:ByteArray) (at':Nat) (br sq:Bool) (v:Value) (ts:List Tok) (w0:World) (hs:s.size≤281474976710656) (cL:at'<s.size) (h:eO base w0 p s at' br sq v ts w) (hlen:ts.length≤1099511627776):
  Calls prog 97 #[.pointer (some ⟨p,0,none⟩)] w (eY base w0 p s at' ts (bI (s.data.toList.drop at') br sq)):=by
 obtain⟨t,ht⟩: ∃t,t=s.extract at' s.size:=⟨_,rfl⟩;have qU:t.data.toList=s.data.toList.drop at':=by rw[ht,gr]
 have Lu:t.size=s.size-at':=by rw[ht];simp
 obtain⟨Q,hQ⟩: ∃Q:Ending→World→Prop,Q=eY base w0 p s at' ts (bI (s.data.toList.drop at') br sq):=⟨_,rfl⟩;rw[←hQ];rw[←qU]at hQ;have c0:w.cell? ⟨p,0,none⟩=some (.string s):=by rw[h.z.cell];rfl
 have c1:w.cell? ⟨p,1,none⟩=some (.int .i64 (at':Int)):=by rw[h.z.cell];rfl
 have q1:((at':Int)≤(s.size:Int))=True:=by simp;omega
 have H:=aa h;have HQ:=aa hQ;have HT:=aa ht;have On:=aa qU;have arn:t.size≤s.size:=by omega
 have HTS:=aa Lu;clear h hQ qU Lu ht;go_enter func97,ntmps97;go_wp2_with fail;go_quiet (fail);have HS:=aa (H.out.drewN nq);clear H c0 c1;generalize w.drewN nq=w2 at HS ⊢
 rw[←HT.out];clear HT;go_wp2_with fail;refine(uY t _ (by omega)).mono ?_;rintro e w3 ⟨rfl,rfl⟩;have zS:=kI t.data.toList;have AR:=ql t.data.toList;rw[ab]at zS AR;have gV:=fun sp=>@JO t.data.toList sp
 have qX:=fun np=>@O5 t.data.toList np
 obtain⟨d,hd⟩: ∃d,d=aY t.data.toList:=⟨_,rfl⟩;obtain⟨n,hn⟩: ∃n,n=ag t.data.toList:=⟨_,rfl⟩;rw[←hd]at zS ⊢
 rw[←hn]at AR;have HD:=aa hd;have HN:=aa hn;have HSP:=aa gV;have LL:=aa qX;clear hd gV qX hn;go_wp2_with fail;refine(uW t _ (by omega)).mono ?_;rintro e w3 ⟨rfl,rfl⟩;rw[←HN.out];by_cases ax:n<d
 ·obtain⟨hk,hl,hb⟩:=HSP.out d HD.out.symm (by rw[←HN.out];exact ax);obtain⟨u,hu⟩: ∃u,u=t.extract 0 d:=⟨_,rfl⟩;have hud:u.data.toList=t.data.toList.take d:=by rw[hu,fG]
  have WV:u.size≤s.size:=by rw[hu];simp;omega
  obtain⟨c,hc⟩: ∃c,c=aq t.data.toList d:=⟨_,rfl⟩;obtain⟨E,hE⟩: ∃E,E=(bG u.data.toList).2:=⟨_,rfl⟩;have hR:=zN (br:=br) (sq:=sq) hk hl hb hc.symm;rw[←hud,←hE]at hR;have HR:=aa hR;have HU:=aa hu;have HA:Hid (∀w,Calls prog 96 #[.string t,.int .i64 (d:Int)] w fun e w'=>e= .returned (.int .u8 (c.toNat:Int))∧w=w'):=aa (fun w=>wz t _ d rfl c hc.symm w (by unfold maxLen;omega));have HP:Hid (∀w,Calls prog 112 #[.string u] w fun e w'=>e= .returned (.tuple #[.int .i64 ((bG u.data.toList).1:Nat),.int .i64 (E:Nat)])∧w=w'):=aa (fun w=>by rw[hE];exact Rk u w (by unfold maxLen;omega));clear hk hl hb hR hc hE hud hu;go_wp2_with fail;rw[←HU.out];refine(HP.out _).mono ?_;rintro e w3 ⟨rfl,rfl⟩;have f5:w2.frozen? ⟨p,5,none⟩=false:=HS.out.z.frozen 5;have c5:w2.cell? ⟨p,5,none⟩=some (.int .i64 0):=by rw[HS.out.z.cell];rfl
  go_wp2_with fail;refine(HA.out _).mono ?_;rintro e w3 ⟨rfl,rfl⟩;cases tM:((E:Int) != 0)
  ·cases hl:letter c
   ·cases hd:digit c
    ·cases oo:((c.toNat:Int)==46)
     ·have HK:Hid (bI t.data.toList br sq= .tok 4 d br sq):=aa (by
       rw[HR.out,af];rintro(h|h|h|h)
       ·exact h (A7 tM)
       ·rw[hl]at h;cases h
       ·rw[hd]at h;cases h
       ·have:=kJ oo;omega)
      go_wp2_with (first|(go_at_call 93;refine(dW c false hl _).mono ?_;rintro e w' ⟨rfl,rfl⟩)|(go_at_call 95;refine(fJ c false hd _).mono ?_;rintro e w' ⟨rfl,rfl⟩));refine(bS w2 base p s at' 4 d _ _ (by rfl) rfl br sq v ts w0 hs (by have:=HTS.out;omega) (by omega) HS.out hlen).mono ?_;rintro e w5 ⟨rfl,iI⟩;have tp:=aa iI;clear iI;go_wp2_with fail;go_end0;rw[HQ.out,HK.out];exact⟨rfl,tp.out⟩
     ·have HB:Hid (bI t.data.toList br sq= .bad 112):=aa (by rw[HR.out,au (.inr (.inr (.inr (by have:=jx oo;omega))))]);go_wp2_with (first|(go_at_call 93;refine(dW c false hl _).mono ?_;rintro e w' ⟨rfl,rfl⟩)|(go_at_call 95;refine(fJ c false hd _).mono ?_;rintro e w' ⟨rfl,rfl⟩));refine cB (pB rfl _ _ _) rfl ?_;rw[HQ.out,HB.out];exact⟨rfl,br,sq,v,(HS.out.fail rfl).1,(HS.out.fail rfl).2⟩
    ·have HB:Hid (bI t.data.toList br sq= .bad 112):=aa (by rw[HR.out,au (.inr (.inr (.inl hd)))]);go_wp2_with (first|(go_at_call 93;refine(dW c false hl _).mono ?_;rintro e w' ⟨rfl,rfl⟩)|(go_at_call 95;refine(fJ c true hd _).mono ?_;rintro e w' ⟨rfl,rfl⟩));refine cB (pB rfl _ _ _) rfl ?_;rw[HQ.out,HB.out];exact⟨rfl,br,sq,v,(HS.out.fail rfl).1,(HS.out.fail rfl).2⟩
   ·have HB:Hid (bI t.data.toList br sq= .bad 112):=aa (by rw[HR.out,au (.inr (.inl hl))]);go_wp2_with (first|(go_at_call 93;refine(dW c true hl _).mono ?_;rintro e w' ⟨rfl,rfl⟩));refine cB (pB rfl _ _ _) rfl ?_;rw[HQ.out,HB.out];exact⟨rfl,br,sq,v,(HS.out.fail rfl).1,(HS.out.fail rfl).2⟩
  ·have HB:Hid (bI t.data.toList br sq= .bad 112):=aa (by rw[HR.out,au (.inl (Ac tM))]);go_wp2_with fail;refine cB (pB rfl _ _ _) rfl ?_;rw[HQ.out,HB.out];exact⟨rfl,br,sq,v,(HS.out.fail rfl).1,(HS.out.fail rfl).2⟩
 ·obtain⟨hk,hl,hb⟩:=LL.out n HN.out.symm (by rw[←HD.out];exact ax);obtain⟨u,hu⟩: ∃u,u=t.extract 0 n:=⟨_,rfl⟩;have hud:u.data.toList=t.data.toList.take n:=by rw[hu,fG]
  have WV:u.size≤s.size:=by rw[hu];simp;omega
  obtain⟨c,hc⟩: ∃c,c=aq t.data.toList n:=⟨_,rfl⟩;obtain⟨E,hE⟩: ∃E,E=bK u.data.toList:=⟨_,rfl⟩;have hR:=zN (br:=br) (sq:=sq) hk hl hb hc.symm;rw[←hud,←hE]at hR;have HR:=aa hR;have HU:=aa hu;have HA:Hid (∀w,Calls prog 96 #[.string t,.int .i64 (n:Int)] w fun e w'=>e= .returned (.int .u8 (c.toNat:Int))∧w=w'):=aa (fun w=>wz t _ n rfl c hc.symm w (by unfold maxLen;omega));have HP:Hid (∀w:World,Calls prog 113 #[.string u] w fun e w'=> ∃x,e= .returned (.tuple #[.float .f64 x,.int .i64 (E:Int)])∧Below w.heap.size w w'):=aa (fun w=>by rw[hE];exact Vv u w (by unfold maxLen;omega));clear hk hl hb hR hc hE hud hu;go_wp2_with fail;rw[←HU.out];refine(HP.out _).mono ?_;rintro e w3 ⟨x,rfl,bW⟩;replace HS:=aa (HS.out.from bW);clear bW;generalize w3=w2 at HS ⊢
  have f5:w2.frozen? ⟨p,5,none⟩=false:=HS.out.z.frozen 5;have c5:w2.cell? ⟨p,5,none⟩=some (.int .i64 0):=by rw[HS.out.z.cell];rfl
  go_wp2_with fail;refine(HA.out _).mono ?_;rintro e w3 ⟨rfl,rfl⟩;cases tM:((E:Int) != 0)
  ·cases hl:letter c
   ·cases hd:digit c
    ·cases oo:((c.toNat:Int)==46)
     ·have HK:Hid (bI t.data.toList br sq= .tok 3 n br sq):=aa (by
       rw[HR.out,af];rintro(h|h|h|h)
       ·exact h (A7 tM)
       ·rw[hl]at h;cases h
       ·rw[hd]at h;cases h
       ·have:=kJ oo;omega)
      go_wp2_with (first|(go_at_call 93;refine(dW c false hl _).mono ?_;rintro e w' ⟨rfl,rfl⟩)|(go_at_call 95;refine(fJ c false hd _).mono ?_;rintro e w' ⟨rfl,rfl⟩));refine(bS w2 base p s at' 3 n _ _ (by rfl) rfl br sq v ts w0 hs (by have:=HTS.out;omega) (by omega) HS.out hlen).mono ?_;rintro e w5 ⟨rfl,iI⟩;have tp:=aa iI;clear iI;go_wp2_with fail;go_end0;rw[HQ.out,HK.out];exact⟨rfl,tp.out⟩
     ·have HB:Hid (bI t.data.toList br sq= .bad 112):=aa (by rw[HR.out,au (.inr (.inr (.inr (by have:=jx oo;omega))))]);go_wp2_with (first|(go_at_call 93;refine(dW c false hl _).mono ?_;rintro e w' ⟨rfl,rfl⟩)|(go_at_call 95;refine(fJ c false hd _).mono ?_;rintro e w' ⟨rfl,rfl⟩));refine cB (pB rfl _ _ _) rfl ?_;rw[HQ.out,HB.out];exact⟨rfl,br,sq,v,(HS.out.fail rfl).1,(HS.out.fail rfl).2⟩
    ·have HB:Hid (bI t.data.toList br sq= .bad 112):=aa (by rw[HR.out,au (.inr (.inr (.inl hd)))]);go_wp2_with (first|(go_at_call 93;refine(dW c false hl _).mono ?_;rintro e w' ⟨rfl,rfl⟩)|(go_at_call 95;refine(fJ c true hd _).mono ?_;rintro e w' ⟨rfl,rfl⟩));refine cB (pB rfl _ _ _) rfl ?_;rw[HQ.out,HB.out];exact⟨rfl,br,sq,v,(HS.out.fail rfl).1,(HS.out.fail rfl).2⟩
   ·have HB:Hid (bI t.data.toList br sq= .bad 112):=aa (by rw[HR.out,au (.inr (.inl hl))]);go_wp2_with (first|(go_at_call 93;refine(dW c true hl _).mono ?_;rintro e w' ⟨rfl,rfl⟩));refine cB (pB rfl _ _ _) rfl ?_;rw[HQ.out,HB.out];exact⟨rfl,br,sq,v,(HS.out.fail rfl).1,(HS.out.fail rfl).2⟩
  ·have HB:Hid (bI t.data.toList br sq= .bad 112):=aa (by rw[HR.out,au (.inl (Ac tM))]);go_wp2_with fail;refine cB (pB rfl _ _ _) rfl ?_;rw[HQ.out,HB.out];exact⟨rfl,br,sq,v,(HS.out.fail rfl).1,(HS.out.fail rfl).2⟩
theorem KU (w:World) (base p:Nat) (s:ByteArray) (at':Nat) (br sq:Bool) (v:Value) (ts:List Tok) (w0:World) (hs:s.size≤281474976710) (cL:at'<s.size) (h:eO base w0 p s at' br sq v ts w) (hlen:ts.length≤1099511627776):
  Calls prog 98 #[.pointer (some ⟨p,0,none⟩)] w (eY base w0 p s at' ts (tA (s.data.toList.drop at') br sq)):=by
 obtain⟨L,hL⟩: ∃L,L=s.data.toList.drop at':=⟨_,rfl⟩;obtain⟨Q,hQ⟩: ∃Q:Ending→World→Prop,Q=eY base w0 p s at' ts (tA L br sq):=⟨_,rfl⟩;rw[←hL,←hQ];have c0:w.cell? ⟨p,0,none⟩=some (.string s):=by rw[h.z.cell];rfl
 have c1:w.cell? ⟨p,1,none⟩=some (.int .i64 (at':Int)):=by rw[h.z.cell];rfl
 have hle:=zq s.data.toList at';rw[←hL]at hle;have hLl:L.length=s.size-at':=by rw[hL,nV,ab]
 have H:=aa h;have HQ:=aa hQ;have HL:=aa hL;clear h hQ hL;obtain⟨T,hT⟩: ∃T,T=bH s.data.toList at':=⟨_,rfl⟩;have HLI:Hid (∀w,Calls prog 114 #[.string s,.int .i64 (at':Int)] w fun e w'=>e= .returned (.tuple #[.int .i64 (jT T),.int .i64 (nY 10 T)])∧w=w'):=aa (fun w=>by rw[hT];exact lp s at' w (by omega));rw[←hT]at hle;clear hT;cases he:bH L 0 with
 |none=>
  rw[he]at hle;have hS:tA L br sq= .bad 111:=by rw[tA,he]
  have Ep:=aa hS;simp only[Option.map_none]at hle;subst hle;simp only[jT,nY]at HLI;clear hS he hLl;go_enter func98,ntmps98;go_wp2_with fail;go_quiet ((go_at_call 114;exact Calls.quiet_of_same ((HLI.out _).mono fun _ _ ⟨h1,h2⟩=>⟨h1,h2.symm⟩)));have HS:=aa (H.out.drewN nq);have f5:(w.drewN nq).frozen? ⟨p,5,none⟩=false:=HS.out.z.frozen 5;have c5:(w.drewN nq).cell? ⟨p,5,none⟩=some (.int .i64 0):=by rw[HS.out.z.cell];rfl
  clear H c0 c1;generalize w.drewN nq=w2 at HS f5 c5 ⊢
  go_wp2_with fail;refine cB (pB rfl _ _ _) rfl ?_;rw[HQ.out,Ep.out];exact⟨rfl,br,sq,v,(HS.out.fail rfl).1,(HS.out.fail rfl).2⟩
 |some n=>
  rw[he]at hle;have hn:=yd he;have hS:tA L br sq=if (lV (L.take n)).1=0 then .tok 5 n br sq else .bad 111:=by rw[tA,he]
  simp only[Option.map_some]at hle;subst hle;simp only[jT,nY]at HLI;rw[hLl]at hn;have hxt:(s.extract at' (n+at')).data.toList=L.take n:=by
   rw[Lib.extract_data,HL.out,show n+at'-at'=n by omega]
  have Zs:(s.extract at' (n+at')).size≤281474976710:=by simp;omega
  obtain⟨R,hR⟩: ∃R,R=lV (L.take n):=⟨_,rfl⟩;obtain⟨uq,huq⟩: ∃uq,uq=R.1:=⟨_,rfl⟩;obtain⟨US,hUS⟩: ∃US:ByteArray,US=⟨R.2.toArray⟩:=⟨_,rfl⟩;have HUN:Hid (∀w:World,Calls prog 115 #[.string (s.extract at' (n+at'))] w fun e w'=>e= .returned (.tuple #[.string US,.int .i64 (uq:Int)])∧Below w.heap.size w w'):=aa (fun w=>by
   rw[hUS,huq,hR,←hxt];exact KR _ w Zs)
  rw[←hR,←huq]at hS;have Ep:=aa hS;have LL:=aa hn;have hns:n+at'≤s.size:=by omega
  have r1:((at':Int)≤(n:Int)+(at':Int))=True:=by simp;omega
  have r2:((n:Int)+(at':Int)≤(s.size:Int))=True:=by simp;omega
  have r3:(0≤(n:Int)+(at':Int))=True:=by simp;omega
  have r4:((n:Int)+(at':Int)).toNat=n+at':=by omega
  clear hS he hLl hR huq hUS hxt Zs hn;go_enter func98,ntmps98;go_wp2_with fail;go_quiet ((go_at_call 114;exact Calls.quiet_of_same ((HLI.out _).mono fun _ _ ⟨h1,h2⟩=>⟨h1,h2.symm⟩)));have HS:=aa (H.out.drewN nq);have g0:(w.drewN nq).cell? ⟨p,0,none⟩=some (.string s):=by rw[HS.out.z.cell];rfl
  have g1:(w.drewN nq).cell? ⟨p,1,none⟩=some (.int .i64 (at':Int)):=by rw[HS.out.z.cell];rfl
  have Xi:p<(w.drewN nq).heap.size:=HS.out.z.lt;clear H c0 c1;generalize w.drewN nq=w3 at HS g0 g1 Xi ⊢
  go_wp2_with fail;go_region_held3 (fun w'=>w'.cell? ⟨p,0,none⟩=some (.string s)∧w'.cell? ⟨p,1,none⟩=some (.int .i64 (at':Int))) (first|go_keep) (first|(go_at_call 115;refine(HUN.out _).mono ?_;rintro e w4 ⟨rfl,fg⟩;have k0:w4.cell? ⟨p,0,none⟩=some (.string s):=(fg.cell (p:=⟨p,0,none⟩) Xi).trans g0;have k1:w4.cell? ⟨p,1,none⟩=some (.int .i64 (at':Int)):=(fg.cell (p:=⟨p,1,none⟩) Xi).trans g1;have pb:=aa fg;clear fg));have fg:=((aV w3.heap.size w3).drew).trans pb.out;have Iv:=aa (HS.out.from fg);have m1:w4.cell? ⟨p,1,none⟩=some (.int .i64 (at':Int)):=by rw[Iv.out.z.cell];rfl
  have f5:w4.frozen? ⟨p,5,none⟩=false:=Iv.out.z.frozen 5;have c5:w4.cell? ⟨p,5,none⟩=some (.int .i64 0):=by rw[Iv.out.z.cell];rfl
  clear fg pb g0 g1 HS;cases hu:((uq:Int) != 0)
  ·go_wp2_with fail;refine(bS w4 base p s at' 5 n _ _ (by rfl) (by first|rfl|omega) br sq v ts w0 (by omega) (by omega) (by omega) Iv.out hlen).mono ?_;rintro e w5 ⟨rfl,iI⟩;have tp:=aa iI;clear iI;go_wp2_with fail;go_end0;rw[HQ.out,Ep.out,au (A7 hu)];exact⟨rfl,tp.out⟩
  ·go_wp2_with fail;refine cB (pB rfl _ _ _) rfl ?_;rw[HQ.out,Ep.out,af (Ac hu)];exact⟨rfl,br,sq,v,(Iv.out.fail rfl).1,(Iv.out.fail rfl).2⟩
def nu (c d:UInt8):Bool:=(c==61&&(d==61||d==126))||(c==33&&(d==61||d==126))||((c==60||c==62)&&d==61)
theorem ac7 (h:l≠[]):Ie l=nu (aq l 0) (aq l 1):=by
 match l,h with
 |[c],_=>simp[Ie,nu,aq]
 |c::d::r,_=>
  have e0:aq (c::d::r) 0=c:=rfl;have e1:aq (c::d::r) 1=d:=rfl;rw[e0,e1,eH];simp only[Ie,nu,S9,List.take_succ_cons,List.take_zero,dZ,kN,tP,uF,cC,List.contains_iff_mem,gB,vD,kS,kM,iP];constructor
  ·rintro⟨_,h⟩;rcases h with⟨a,b⟩|⟨a,b⟩|⟨a,b⟩|⟨a,b⟩|⟨a,b⟩|⟨a,b⟩<;>simp[a,b]
  ·intro h;refine⟨by omega,?_⟩;rcases h with(⟨a,b|b⟩|⟨a,b|b⟩)|⟨a|a,b⟩<;>simp[a,b]
def AY (c d:UInt8) (br sq:Bool):A6:=
 if nu c d=true then .tok 6 2 br sq
 else if c.toNat=123 then .tok 6 1 true sq
 else if c.toNat=125 then .tok 6 1 false sq
 else if c.toNat=91 then .tok 6 1 br true
 else if c.toNat=93 then .tok 6 1 br false
 else if L5.contains c.toNat=true then .tok 6 1 br sq
 else .bad 110
theorem ag0 (h:l≠[]) (br sq:Bool):sJ l br sq=AY (aq l 0) (aq l 1) br sq:=by
 rw[sJ,AY,ac7 h]
theorem eO.ι (h:eO base w0 p s at' br sq v ts w) (b:Bool):eO base w0 p s at' b sq v ts (w.setCell ⟨p,2,none⟩ (.bool b)):=by
 refine⟨?_,aD h.own h.z (by decide) _,h.below.setCell (p:=⟨p,2,none⟩) h.bp _,h.bp⟩;have:=aK.bT h.z 2 (.bool b);simpa [LZ]using this
theorem eO.κ (h:eO base w0 p s at' br sq v ts w) (b:Bool):eO base w0 p s at' br b v ts (w.setCell ⟨p,3,none⟩ (.bool b)):=by
 refine⟨?_,aD h.own h.z (by decide) _,h.below.setCell (p:=⟨p,3,none⟩) h.bp _,h.bp⟩;have:=aK.bT h.z 3 (.bool b);simpa [LZ]using this
set_option maxHeartbeats 8000000 in
theorem qp (w:World) (base p:Nat) (s:ByteArray) (at':Nat) (br sq:Bool) (v:Value) (ts:List Tok) (w0:World) (hs:s.size≤281474976710656) (cL:at'<s.size) (h:eO base w0 p s at' br sq v ts w) (hlen:ts.length≤1099511627776):
  Calls prog 99 #[.pointer (some ⟨p,0,none⟩)] w (eY base w0 p s at' ts (sJ (s.data.toList.drop at') br sq)):=by
 have bZ:s.data.toList.drop at'≠[]:=by
  intro e;have:=cz List.length e;rw[nV,ab]at this;simp at this;omega
 rw[ag0 bZ,gE,gE,iK,ar cL];obtain⟨c,bh⟩: ∃c,s[at']=c:=⟨_,rfl⟩;obtain⟨d,hd⟩: ∃d,aq s.data.toList (at'+1)=d:=⟨_,rfl⟩;rw[bh,hd];obtain⟨Q,hQ⟩: ∃Q:A6→Ending→World→Prop,Q=eY base w0 p s at' ts:=⟨_,rfl⟩;rw[←hQ];have Xd:d.toNat≠0→at'+1<s.size:=by
  intro h0;rcases dF (at'+1) s.size with h1|h1
  ·exact h1
  ·rw[Bz (by rw[ab];exact h1)]at hd;rw[←hd]at h0;exact absurd rfl h0
 have HA:Hid (∀w,Calls prog 96 #[.string s,.int .i64 ((at':Int)+1)] w fun e w'=>e= .returned (.int .u8 (d.toNat:Int))∧w=w'):=aa (fun w=>wz s _ (at'+1) (by omega) d hd w (by unfold maxLen;omega));have c0:w.cell? ⟨p,0,none⟩=some (.string s):=by rw[h.z.cell];rfl
 have c1:w.cell? ⟨p,1,none⟩=some (.int .i64 (at':Int)):=by rw[h.z.cell];rfl
 have H:=aa h;have HQ:=aa hQ;have ZJ:=aa Xd;have p2:(at':Int)<(s.size:Int):=by omega
 clear h hQ hd bZ Xd;go_enter func99,ntmps99;go_wp2_with fail;go_quiet ((go_at_call 96;exact Calls.quiet_of_same ((HA.out _).mono fun _ _ ⟨h1,h2⟩=>⟨h1,h2.symm⟩)));have HS:=aa (H.out.drewN nq);clear H c0 c1 HA;generalize w.drewN nq=w2 at HS ⊢
 have qu:=aa bh;have f2:w2.frozen? ⟨p,2,none⟩=false:=HS.out.z.frozen 2;have f3:w2.frozen? ⟨p,3,none⟩=false:=HS.out.z.frozen 3;have f5:w2.frozen? ⟨p,5,none⟩=false:=HS.out.z.frozen 5;have c2:w2.cell? ⟨p,2,none⟩=some (.bool br):=by rw[HS.out.z.cell];rfl
 have c3:w2.cell? ⟨p,3,none⟩=some (.bool sq):=by rw[HS.out.z.cell];rfl
 have c5:w2.cell? ⟨p,5,none⟩=some (.int .i64 0):=by rw[HS.out.z.cell];rfl
 clear bh qu;by_cases ab7:c.toNat=123
 ·have hc:=cM (n:=123) (by omega) ab7;subst hc;have HR:Hid (AY (UInt8.ofNat 123) d br sq= .tok 6 1 true sq):=aa rfl;go_wp2_with fail;refine(bS _ base p s at' 6 1 _ _ (by rfl) (by rfl) true sq v ts w0 hs (by omega) (by omega) (HS.out.ι true) hlen).mono ?_;rintro e w5 ⟨rfl,iI⟩;have tp:=aa iI;clear iI;go_wp2_with fail;go_end0;rw[HR.out,HQ.out];exact⟨rfl,tp.out⟩
 by_cases ab8:c.toNat=125
 ·have hc:=cM (n:=125) (by omega) ab8;subst hc;have HR:Hid (AY (UInt8.ofNat 125) d br sq= .tok 6 1 false sq):=aa rfl;go_wp2_with fail;refine(bS _ base p s at' 6 1 _ _ (by rfl) (by rfl) false sq v ts w0 hs (by omega) (by omega) (HS.out.ι false) hlen).mono ?_;rintro e w5 ⟨rfl,iI⟩;have tp:=aa iI;clear iI;go_wp2_with fail;go_end0;rw[HR.out,HQ.out];exact⟨rfl,tp.out⟩
 by_cases h91:c.toNat=91
 ·have hc:=cM (n:=91) (by omega) h91;subst hc;have HR:Hid (AY (UInt8.ofNat 91) d br sq= .tok 6 1 br true):=aa rfl;go_wp2_with fail;refine(bS _ base p s at' 6 1 _ _ (by rfl) (by rfl) br true v ts w0 hs (by omega) (by omega) (HS.out.κ true) hlen).mono ?_;rintro e w5 ⟨rfl,iI⟩;have tp:=aa iI;clear iI;go_wp2_with fail;go_end0;rw[HR.out,HQ.out];exact⟨rfl,tp.out⟩
 by_cases h93:c.toNat=93
 ·have hc:=cM (n:=93) (by omega) h93;subst hc;have HR:Hid (AY (UInt8.ofNat 93) d br sq= .tok 6 1 br false):=aa rfl;go_wp2_with fail;refine(bS _ base p s at' 6 1 _ _ (by rfl) (by rfl) br false v ts w0 hs (by omega) (by omega) (HS.out.κ false) hlen).mono ?_;rintro e w5 ⟨rfl,iI⟩;have tp:=aa iI;clear iI;go_wp2_with fail;go_end0;rw[HR.out,HQ.out];exact⟨rfl,tp.out⟩
 by_cases qK:c.toNat=40∨c.toNat=41∨c.toNat=44∨c.toNat=58∨c.toNat=43∨c.toNat=45∨c.toNat=42∨c.toNat=47∨c.toNat=37∨c.toNat=94∨c.toNat=64
 ·rcases qK with h|h|h|h|h|h|h|h|h|h|h
  all_goals
   have hc:=cM (by omega) h;have HR:Hid (AY c d br sq= .tok 6 1 br sq):=aa (by rw[hc];rfl);subst hc;go_wp2_with fail;refine(bS _ base p s at' 6 1 _ _ (by rfl) (by rfl) br sq v ts w0 hs (by omega) (by omega) HS.out hlen).mono ?_;rintro e w5 ⟨rfl,iI⟩;have tp:=aa iI;clear iI;go_wp2_with fail;go_end0;rw[HR.out,HQ.out];exact⟨rfl,tp.out⟩
 by_cases h61:c.toNat=61
 ·have hc:=cM (n:=61) (by omega) h61;subst hc;cases e1:((d.toNat:Int)==61)
  ·cases e2:((d.toNat:Int)==126)
   ·have HR:Hid (AY (UInt8.ofNat 61) d br sq= .tok 6 1 br sq):=aa (by
     have n1:(d==61)=false:=bN.2 (pF (n:=61) (by omega) rfl e1);have n2:(d==126)=false:=bN.2 (pF (n:=126) (by omega) rfl e2);have:nu (UInt8.ofNat 61) d=false:=by simp[nu,n1,n2]
     rw[AY,this];rfl)
    go_wp2_with fail;refine(bS _ base p s at' 6 1 _ _ (by rfl) (by rfl) br sq v ts w0 hs (by omega) (by omega) HS.out hlen).mono ?_;rintro e w5 ⟨rfl,iI⟩;have tp:=aa iI;clear iI;go_wp2_with fail;go_end0;rw[HR.out,HQ.out];exact⟨rfl,tp.out⟩
   ·have HR:Hid (AY (UInt8.ofNat 61) d br sq= .tok 6 2 br sq):=aa (by
     have n2:d=126:=ox (n:=126) (by omega) rfl e2;rw[n2];rfl)
    go_wp2_with fail;refine(bS _ base p s at' 6 2 _ _ (by rfl) (by rfl) br sq v ts w0 hs (by have:=ZJ.out (by have:=jx e2;omega);omega) (by omega) HS.out hlen).mono ?_;rintro e w5 ⟨rfl,iI⟩;have tp:=aa iI;clear iI;go_wp2_with fail;refine cB (pB rfl _ _ _) rfl ?_;rw[HR.out,HQ.out];exact⟨rfl,tp.out⟩
  ·have HR:Hid (AY (UInt8.ofNat 61) d br sq= .tok 6 2 br sq):=aa (by
    have n2:d=61:=ox (n:=61) (by omega) rfl e1;rw[n2];rfl)
   go_wp2_with fail;refine(bS _ base p s at' 6 2 _ _ (by rfl) (by rfl) br sq v ts w0 hs (by have:=ZJ.out (by have:=jx e1;omega);omega) (by omega) HS.out hlen).mono ?_;rintro e w5 ⟨rfl,iI⟩;have tp:=aa iI;clear iI;go_wp2_with fail;refine cB (pB rfl _ _ _) rfl ?_;rw[HR.out,HQ.out];exact⟨rfl,tp.out⟩
 by_cases WJ:c.toNat=33
 ·have hc:=cM (n:=33) (by omega) WJ;subst hc;cases e1:((d.toNat:Int)==61)
  ·cases e2:((d.toNat:Int)==126)
   ·have HR:Hid (AY (UInt8.ofNat 33) d br sq= .bad 110):=aa (by
     have n1:(d==61)=false:=bN.2 (pF (n:=61) (by omega) rfl e1);have n2:(d==126)=false:=bN.2 (pF (n:=126) (by omega) rfl e2);have:nu (UInt8.ofNat 33) d=false:=by simp[nu,n1,n2]
     rw[AY,this];rfl)
    have x1:((d.toNat:Int)=61)=False:=bU (kJ e1);have x2:((d.toNat:Int)=126)=False:=bU (kJ e2);have y1:((d.toNat:Int) != 61)=true:=by rw[bne,e1];rfl
    have y2:((d.toNat:Int) != 126)=true:=by rw[bne,e2];rfl
    go_wp2_with fail;refine cB (pB rfl _ _ _) rfl ?_;rw[HR.out,HQ.out];exact⟨rfl,br,sq,v,(HS.out.fail rfl).1,(HS.out.fail rfl).2⟩
   ·have HR:Hid (AY (UInt8.ofNat 33) d br sq= .tok 6 2 br sq):=aa (by
     have n2:d=126:=ox (n:=126) (by omega) rfl e2;rw[n2];rfl)
    have x1:((d.toNat:Int)=61)=False:=bU (kJ e1);have y1:((d.toNat:Int) != 61)=true:=by rw[bne,e1];rfl
    have y2:((d.toNat:Int) != 126)=false:=by rw[bne,e2];rfl
    go_wp2_with fail;refine(bS _ base p s at' 6 2 _ _ (by rfl) (by rfl) br sq v ts w0 hs (by have:=ZJ.out (by have:=jx e2;omega);omega) (by omega) HS.out hlen).mono ?_;rintro e w5 ⟨rfl,iI⟩;have tp:=aa iI;clear iI;go_wp2_with fail;refine cB (pB rfl _ _ _) rfl ?_;rw[HR.out,HQ.out];exact⟨rfl,tp.out⟩
  ·have HR:Hid (AY (UInt8.ofNat 33) d br sq= .tok 6 2 br sq):=aa (by
    have n2:d=61:=ox (n:=61) (by omega) rfl e1;rw[n2];rfl)
   have y1:((d.toNat:Int) != 61)=false:=by rw[bne,e1];rfl
   go_wp2_with fail;refine(bS _ base p s at' 6 2 _ _ (by rfl) (by rfl) br sq v ts w0 hs (by have:=ZJ.out (by have:=jx e1;omega);omega) (by omega) HS.out hlen).mono ?_;rintro e w5 ⟨rfl,iI⟩;have tp:=aa iI;clear iI;go_wp2_with fail;refine cB (pB rfl _ _ _) rfl ?_;rw[HR.out,HQ.out];exact⟨rfl,tp.out⟩
 by_cases h60:c.toNat=60
 ·have hc:=cM (n:=60) (by omega) h60;subst hc;cases e1:((d.toNat:Int)==61)
  ·have HR:Hid (AY (UInt8.ofNat 60) d br sq= .tok 6 1 br sq):=aa (by
    have n1:(d==61)=false:=bN.2 (pF (n:=61) (by omega) rfl e1);have:nu (UInt8.ofNat 60) d=false:=by simp[nu,n1]
    rw[AY,this];rfl)
   go_wp2_with fail;refine(bS _ base p s at' 6 1 _ _ (by rfl) (by rfl) br sq v ts w0 hs (by omega) (by omega) HS.out hlen).mono ?_;rintro e w5 ⟨rfl,iI⟩;have tp:=aa iI;clear iI;go_wp2_with fail;go_end0;rw[HR.out,HQ.out];exact⟨rfl,tp.out⟩
  ·have HR:Hid (AY (UInt8.ofNat 60) d br sq= .tok 6 2 br sq):=aa (by
    have n2:d=61:=ox (n:=61) (by omega) rfl e1;rw[n2];rfl)
   go_wp2_with fail;refine(bS _ base p s at' 6 2 _ _ (by rfl) (by rfl) br sq v ts w0 hs (by have:=ZJ.out (by have:=jx e1;omega);omega) (by omega) HS.out hlen).mono ?_;rintro e w5 ⟨rfl,iI⟩;have tp:=aa iI;clear iI;go_wp2_with fail;refine cB (pB rfl _ _ _) rfl ?_;rw[HR.out,HQ.out];exact⟨rfl,tp.out⟩
 by_cases h62:c.toNat=62
 ·have hc:=cM (n:=62) (by omega) h62;subst hc;cases e1:((d.toNat:Int)==61)
  ·have HR:Hid (AY (UInt8.ofNat 62) d br sq= .tok 6 1 br sq):=aa (by
    have n1:(d==61)=false:=bN.2 (pF (n:=61) (by omega) rfl e1);have:nu (UInt8.ofNat 62) d=false:=by simp[nu,n1]
    rw[AY,this];rfl)
   go_wp2_with fail;refine(bS _ base p s at' 6 1 _ _ (by rfl) (by rfl) br sq v ts w0 hs (by omega) (by omega) HS.out hlen).mono ?_;rintro e w5 ⟨rfl,iI⟩;have tp:=aa iI;clear iI;go_wp2_with fail;go_end0;rw[HR.out,HQ.out];exact⟨rfl,tp.out⟩
  ·have HR:Hid (AY (UInt8.ofNat 62) d br sq= .tok 6 2 br sq):=aa (by
    have n2:d=61:=ox (n:=61) (by omega) rfl e1;rw[n2];rfl)
   go_wp2_with fail;refine(bS _ base p s at' 6 2 _ _ (by rfl) (by rfl) br sq v ts w0 hs (by have:=ZJ.out (by have:=jx e1;omega);omega) (by omega) HS.out hlen).mono ?_;rintro e w5 ⟨rfl,iI⟩;have tp:=aa iI;clear iI;go_wp2_with fail;refine cB (pB rfl _ _ _) rfl ?_;rw[HR.out,HQ.out];exact⟨rfl,tp.out⟩
 have HR:Hid (AY c d br sq= .bad 110):=aa (by
  have g61:(c==61)=false:=bN.2 (fun e=>h61 (by rw[e];rfl));have g33:(c==33)=false:=bN.2 (fun e=>WJ (by rw[e];rfl));have g60:(c==60)=false:=bN.2 (fun e=>h60 (by rw[e];rfl));have g62:(c==62)=false:=bN.2 (fun e=>h62 (by rw[e];rfl));have h2:nu c d=false:=by simp[nu,g61,g33,g60,g62]
  have h1:L5.contains c.toNat=false:=by
   rw[Bool.eq_false_iff];intro h;simp only[L5,List.contains_iff_mem,gB,kM,iP]at h;omega
  rw[AY,h2,af (by simp),af ab7,af ab8,af h91,af h93,h1];rfl)
 have aro:((c.toNat:Int)==123)=false:=bN.2 (by omega);have arp:((c.toNat:Int)==125)=false:=bN.2 (by omega);have z91:((c.toNat:Int)==91)=false:=bN.2 (by omega);have z93:((c.toNat:Int)==93)=false:=bN.2 (by omega);have z40:((c.toNat:Int)==40)=false:=bN.2 (by omega);have z41:((c.toNat:Int)==41)=false:=bN.2 (by omega);have z44:((c.toNat:Int)==44)=false:=bN.2 (by omega);have z58:((c.toNat:Int)==58)=false:=bN.2 (by omega);have z43:((c.toNat:Int)==43)=false:=bN.2 (by omega);have z45:((c.toNat:Int)==45)=false:=bN.2 (by omega);have z42:((c.toNat:Int)==42)=false:=bN.2 (by omega);have z47:((c.toNat:Int)==47)=false:=bN.2 (by omega);have z37:((c.toNat:Int)==37)=false:=bN.2 (by omega);have z94:((c.toNat:Int)==94)=false:=bN.2 (by omega);have z64:((c.toNat:Int)==64)=false:=bN.2 (by omega);have z61:((c.toNat:Int)==61)=false:=bN.2 (by omega);have z33:((c.toNat:Int)==33)=false:=bN.2 (by omega);have z60:((c.toNat:Int)==60)=false:=bN.2 (by omega);have z62:((c.toNat:Int)==62)=false:=bN.2 (by omega);clear ab7 ab8 h91 h93 qK h61 WJ h60 h62;go_wp2_with fail;refine cB (pB rfl _ _ _) rfl ?_;rw[HR.out,HQ.out];exact⟨rfl,br,sq,v,(HS.out.fail rfl).1,(HS.out.fail rfl).2⟩
theorem J9 (w:World) (base p:Nat) (s:ByteArray) (at':Nat) (br sq:Bool) (v:Value) (ts:List Tok) (w0:World) (hs:s.size≤281474976710656) (cL:at'<s.size) (h:eO base w0 p s at' br sq v ts w) (hlen:ts.length≤1099511627776)
  (hh:letter s[at']=true∨(s[at'].toNat=58∧(!br&& !sq)=true)):
  Calls prog 94 #[.pointer (some ⟨p,0,none⟩)] w (eY base w0 p s at' ts (bg (s.data.toList.drop at') br sq)):=by
 have hT:=UT (l:=s.data.toList.drop at') (col:=(!br&& !sq)) rfl (by rw[gE,iK,ar cL];exact hh);rw[hT,G7];exact Q8 w base p s at' br sq v ts w0 hs cL h hlen _ rfl
theorem CU (hc:aq l 0=c) (hl:letter c=false) (Sk:c.toNat≠58) (h:digit c=true∨(c.toNat=46∧digit (aq l 1)=true)):bg l br sq=bI l br sq:=by
 subst hc;have h2:digit (aq l 0)=true∨((aq l 0).toNat=46∧1<l.length∧digit (aq l 1)=true):=by
  rcases h with h|⟨h,h'⟩
  ·exact .inl h
  ·refine .inr ⟨h,?_,h'⟩;rcases dF 1 l.length with h1|h1
   ·exact h1
   ·rw[Bz h1]at h';exact absurd h' (by decide)
 rw[bg,hl,af (by simp),af (fun x=>Sk x.1),au h2]
theorem KV (hc:aq l 0=c) (h:c.toNat=34∨c.toNat=39∨c.toNat=96):bg l br sq=tA l br sq:=by
 subst hc;have bh:aq l 0=34∨aq l 0=39∨aq l 0=96:=by
  rcases h with h|h|h
  ·exact .inl (cM (n:=34) (by omega) h)
  ·exact .inr (.inl (cM (n:=39) (by omega) h))
  ·exact .inr (.inr (cM (n:=96) (by omega) h))
 have h1:letter (aq l 0)=false:=by rcases bh with e|e|e<;>(rw[e];decide)
 have h2:digit (aq l 0)=false:=by rcases bh with e|e|e<;>(rw[e];decide)
 have h3:dD (aq l 0)=true:=by rcases bh with e|e|e<;>(rw[e];decide)
 rw[bg,h1,af (by simp),af (by rintro⟨x,_⟩;omega),h2,af (fun x=>x.elim (fun y=>by cases y) (fun y=>by have:=y.1;omega)),au h3]
theorem Mu (hc:aq l 0=c) (hl:letter c=false) (Sk: ¬(c.toNat=58∧(!br&& !sq)=true)) (hd:digit c=false) (oo: ¬(c.toNat=46∧digit (aq l 1)=true)) (h1:c.toNat≠34) (h2:c.toNat≠39) (h3:c.toNat≠96):bg l br sq=sJ l br sq:=by
 subst hc;have hq: ¬dD (aq l 0)=true:=by
  intro h;simp only[dD,tP,cC]at h;rcases h with(h|h)|h
  ·exact h1 (by rw[h];rfl)
  ·exact h2 (by rw[h];rfl)
  ·exact h3 (by rw[h];rfl)
 rw[bg,hl,af (by simp),af Sk,hd,af (fun x=>x.elim (fun y=>by cases y) (fun y=>oo ⟨y.1,y.2.2⟩)),af hq]
theorem Rw (c d:UInt8):(letter c=true)∨(letter c=false∧((c.toNat:Int)==58)=true∧digit c=false∧((c.toNat:Int)==46)=false∧((c.toNat:Int)==34)=false∧((c.toNat:Int)==39)=false∧((c.toNat:Int)==96)=false)∨(letter c=false∧((c.toNat:Int)==58)=false∧digit c=true)∨(letter c=false∧((c.toNat:Int)==58)=false∧digit c=false∧((c.toNat:Int)==46)=true∧((c.toNat:Int)==34)=false∧((c.toNat:Int)==39)=false∧((c.toNat:Int)==96)=false∧digit d=false)∨(letter c=false∧((c.toNat:Int)==58)=false∧digit c=false∧((c.toNat:Int)==46)=true∧((c.toNat:Int)==34)=false∧((c.toNat:Int)==39)=false∧((c.toNat:Int)==96)=false∧digit d=true)∨(letter c=false∧((c.toNat:Int)==58)=false∧digit c=false∧((c.toNat:Int)==46)=false∧((c.toNat:Int)==34)=true)∨(letter c=false∧((c.toNat:Int)==58)=false∧digit c=false∧((c.toNat:Int)==46)=false∧((c.toNat:Int)==34)=false∧((c.toNat:Int)==39)=true)∨(letter c=false∧((c.toNat:Int)==58)=false∧digit c=false∧((c.toNat:Int)==46)=false∧((c.toNat:Int)==34)=false∧((c.toNat:Int)==39)=false∧((c.toNat:Int)==96)=true)∨(letter c=false∧((c.toNat:Int)==58)=false∧digit c=false∧((c.toNat:Int)==46)=false∧((c.toNat:Int)==34)=false∧((c.toNat:Int)==39)=false∧((c.toNat:Int)==96)=false):=by
 cases hl:letter c
 ·by_cases tK:c.toNat=58
  ·simp[digit,tK]
  ·have n58:((c.toNat:Int)==58)=false:=bN.2 (by omega);cases hd:digit c
   ·by_cases sK:c.toNat=46
    ·cases digit d<;>simp[sK]
    ·have n46:((c.toNat:Int)==46)=false:=bN.2 (by omega);simp only[n58,n46];cases ((c.toNat:Int)==34)<;>cases ((c.toNat:Int)==39)<;>cases ((c.toNat:Int)==96)<;>simp
   ·simp[n58]
 ·exact .inl rfl
set_option maxHeartbeats 8000000 in
theorem Vw (w:World) (s:ByteArray) (hs:s.size≤281474976710):
  Calls prog 73 #[.string s] w (fu w (eX s.data.toList)):=by
 obtain⟨R,hR⟩: ∃R,R=eX s.data.toList:=⟨_,rfl⟩;rw[←hR];by_cases afI:(33554432:Int)<(s.size:Int)
 ·have h2:R.2=some (0,1):=by rw[hR,eX,au (by rw[ab];omega)]
  have H2:=aa h2;clear h2 hR;go_enter func73,ntmps73;go_wp2_with fail;refine cB (iu rfl _ _ _) rfl ?_;exact fu.bad H2.out (aV _ _)
 ·have hRR:R=cO s.data.toList 0 false false:=by rw[hR,eX,af (by rw[ab];omega)]
  have HR:=aa hRR;clear hR hRR;have vr:=(aV w.heap.size w).alloc (aS _) (.cells #[.string s,.int .i64 0,.bool false,.bool false,.slice none 0 0,.int .i64 0] 151);have H0:Hid (eO w.heap.size w w.heap.size s 0 false false (.slice none 0 0) [] (w.alloc (.cells #[.string s,.int .i64 0,.bool false,.bool false,.slice none 0 0,.int .i64 0] 151))):=
   aa ⟨aK.new w _ _,rh _ _ _ _,vr,aS _⟩
  clear vr;obtain⟨p,hp⟩: ∃p,p=w.heap.size:=⟨_,rfl⟩;go_enter func73,ntmps73;go_wp2_with fail;rw[←hp]at H0 ⊢
  have HP:=aa hp;clear hp;generalize (w.alloc (.cells #[.string s,.int .i64 0,.bool false,.bool false,.slice none 0 0,.int .i64 0] 151))=w1 at H0 ⊢
  go_loopw [6] (fun _ wr=> ∃(k:Nat) (br sq:Bool) (v:Value) (ts:List Tok),k≤s.size∧ts.length≤k∧Hid (eO p w p s k br sq v ts wr)∧Hid (R=(ts++(cO (s.data.toList.drop k) k br sq).1,(cO (s.data.toList.drop k) k br sq).2))) (fun _ wr=>s.size-nr wr p)
  case atStart=>exact⟨0,false,false,_,[],dQ _,dQ _,H0,aa (by rw[HR.out];rfl)⟩
  case round=>
   obtain⟨k0,br,sq,v,ts,lS,Lu,dz,hR⟩:=hrel;clear H0 HR;have hmu:nr wr p=k0:=qa dz.out.z;have HMU:=aa hmu;clear hmu;go_wp2_with fail;refine(QV wr p p s k0 br sq v ts w (by omega) lS dz.out).mono ?_;rintro e w2 ⟨rfl,k,mU,zU,XQ,hsc,yC⟩;have HS:=aa XQ;have HR:Hid (R=(ts++(cO (s.data.toList.drop k) k br sq).1,(cO (s.data.toList.drop k) k br sq).2)):=aa (by rw[hsc];exact hR.out);have Oi:=aa yC;clear XQ hsc yC dz hR;have c1:w2.cell? ⟨p,1,none⟩=some (.int .i64 (k:Int)):=by rw[HS.out.z.cell];rfl
   have c2:w2.cell? ⟨p,2,none⟩=some (.bool br):=by rw[HS.out.z.cell];rfl
   have c3:w2.cell? ⟨p,3,none⟩=some (.bool sq):=by rw[HS.out.z.cell];rfl
   have c4:w2.cell? ⟨p,4,none⟩=some v:=by rw[HS.out.z.cell];rfl
   by_cases ax:k<s.size
   ·obtain⟨ot,h35⟩:=Oi.out ax;obtain⟨L,hL⟩: ∃L,L=s.data.toList.drop k:=⟨_,rfl⟩;have hLl:L.length=s.size-k:=by rw[hL,nV,ab]
    have bZ:L≠[]:=by intro e;rw[e]at hLl;simp at hLl;omega
    have xL:aq L 0=s[k]:=by rw[hL,gE,iK,ar ax]
    have rl:aq L 1=aq s.data.toList (k+1):=by rw[hL,gE]
    rw[←hL]at HR;obtain⟨c,hc⟩: ∃c,s[k]=c:=⟨_,rfl⟩;obtain⟨d,hd⟩: ∃d,aq s.data.toList (k+1)=d:=⟨_,rfl⟩;rw[hc]at xL ot h35;rw[hd]at rl;have HA:Hid (∀w,Calls prog 96 #[.string s,.int .i64 ((k:Int)+1)] w fun e w'=>e= .returned (.int .u8 (d.toNat:Int))∧w=w'):=aa (fun w=>wz s _ (k+1) (by omega) d hd w (by unfold maxLen;omega));obtain⟨X,hX⟩: ∃X,X=bg L br sq:=⟨_,rfl⟩;have ab9:Hid (∀kk n b q,X= .tok kk n b q→1≤n∧n≤s.size-k∧R=((ts++[⟨kk,L.take n,k⟩])++(cO (s.data.toList.drop (k+n)) (k+n) b q).1,(cO (s.data.toList.drop (k+n)) (k+n) b q).2)):=aa (by
     intro kk n b q hr;rw[hX]at hr;have pE:=jc bZ hr;have hsf:=oX bZ (by rw[xL];exact ot) (by rw[xL];exact h35) hr k;refine⟨pE.1,by omega,?_⟩;rw[HR.out,hsf,tx,hL,yS];rfl)
    have vJ:Hid (∀er,X= .bad er→R.2=some (k,er)∧er≠0):=aa (by
     intro er hr;rw[hX]at hr;refine⟨by rw[HR.out,sV bZ (by rw[xL];exact ot) (by rw[xL];exact h35) hr k],?_⟩;have:=uS hr;omega)
    have HX:=aa hX;have HL:=aa hL;have Qk:=aa xL;have af1:=aa rl;have HC:Hid (s[k]=c):=aa hc;have vK:ts.length≤1099511627776:=by omega
    have iE:s.size≤281474976710656:=by omega
    clear hL hLl bZ xL rl hd ot h35 HR Oi hX;rcases Rw c d with hl|⟨hl,tK,hd,z46,z34,z39,z96⟩|⟨hl,tK,hd⟩|⟨hl,tK,hd,sK,z34,z39,z96,pd⟩|⟨hl,tK,hd,sK,z34,z39,z96,pd⟩|⟨hl,tK,hd,sK,e34⟩|⟨hl,tK,hd,sK,e34,e39⟩|⟨hl,tK,hd,sK,e34,e39,e96⟩|⟨hl,tK,hd,sK,e34,e39,e96⟩
    case' inl=>
     have Iu:=aa (show Calls prog 94 #[.pointer (some ⟨p,0,none⟩)] w2 (eY p w p s k ts X)from by
      rw[HX.out,HL.out];exact J9 w2 p p s k br sq v ts w iE ax HS.out vK (by rw[HC.out];exact .inl hl))
    case' inr.inl=>
     have HV:=aa (jx tK);cases br<;>cases sq
    case' inr.inl.false.false=>
     have Iu:=aa (show Calls prog 94 #[.pointer (some ⟨p,0,none⟩)] w2 (eY p w p s k ts X)from by
      rw[HX.out,HL.out];exact J9 w2 p p s k _ _ v ts w iE ax HS.out vK (by rw[HC.out];exact .inr ⟨by have:=HV.out;omega,rfl⟩))
    case' inr.inl.false.true|inr.inl.true.false|inr.inl.true.true=>
     have v58:=HV.out;have Iu:=aa (show Calls prog 99 #[.pointer (some ⟨p,0,none⟩)] w2 (eY p w p s k ts X)from by
      rw[HX.out,Mu Qk.out hl (by simp) hd (fun x=>by omega) (by omega) (by omega) (by omega),HL.out];exact qp w2 p p s k _ _ v ts w iE ax HS.out vK)
    case' inr.inr.inl=>
     have Iu:=aa (show Calls prog 97 #[.pointer (some ⟨p,0,none⟩)] w2 (eY p w p s k ts X)from by
      rw[HX.out,CU Qk.out hl (by have:=kJ tK;omega) (.inl hd),HL.out];exact CT w2 p p s k br sq v ts w iE ax HS.out vK)
    case' inr.inr.inr.inl=>
     have Iu:=aa (show Calls prog 99 #[.pointer (some ⟨p,0,none⟩)] w2 (eY p w p s k ts X)from by
      rw[HX.out,Mu Qk.out hl (fun x=>by have:=kJ tK;omega) hd (fun x=>by rw[af1.out,pd]at x;cases x.2) (by have:=jx sK;omega) (by have:=jx sK;omega) (by have:=jx sK;omega),HL.out];exact qp w2 p p s k br sq v ts w iE ax HS.out vK)
    case' inr.inr.inr.inr.inl=>
     have Iu:=aa (show Calls prog 97 #[.pointer (some ⟨p,0,none⟩)] w2 (eY p w p s k ts X)from by
      rw[HX.out,CU Qk.out hl (by have:=kJ tK;omega) (.inr ⟨by have:=jx sK;omega,by rw[af1.out];exact pd⟩),HL.out];exact CT w2 p p s k br sq v ts w iE ax HS.out vK)
    case' inr.inr.inr.inr.inr.inl|inr.inr.inr.inr.inr.inr.inl|inr.inr.inr.inr.inr.inr.inr.inl=>
     have Iu:=aa (show Calls prog 98 #[.pointer (some ⟨p,0,none⟩)] w2 (eY p w p s k ts X)from by
      rw[HX.out,KV Qk.out (by first|(have:=jx e34;omega)|(have:=jx e39;omega)|(have:=jx e96;omega)),HL.out];exact KU w2 p p s k br sq v ts w hs ax HS.out vK)
    case' inr.inr.inr.inr.inr.inr.inr.inr=>
     have Iu:=aa (show Calls prog 99 #[.pointer (some ⟨p,0,none⟩)] w2 (eY p w p s k ts X)from by
      rw[HX.out,Mu Qk.out hl (fun x=>by have:=kJ tK;omega) hd (fun x=>by have:=kJ sK;omega) (by have:=kJ e34;omega) (by have:=kJ e39;omega) (by have:=kJ e96;omega),HL.out];exact qp w2 p p s k br sq v ts w iE ax HS.out vK)
    all_goals (try clear v58)
    all_goals
     clear HX;go_wp2_with (first|(go_at_call 93;refine(dW c _ hl _).mono ?_;rintro e w' ⟨rfl,rfl⟩)|(go_at_call 95;refine(fJ c _ hd _).mono ?_;rintro e w' ⟨rfl,rfl⟩)|(go_at_call 95;refine(fJ d _ pd _).mono ?_;rintro e w' ⟨rfl,rfl⟩)|(go_at_call 96;refine(HA.out _).mono ?_;rintro e w' ⟨rfl,rfl⟩));refine Iu.out.mono ?_;rintro e w5 ⟨rfl,iI⟩;clear Iu c1 c2 c3 c4;cases X with
     |tok kk n b q=>
      obtain⟨v',Tj⟩:=iI;obtain⟨AR,xz,hR5⟩:=ab9.out kk n b q rfl;rw[←HL.out]at Tj;have HS5:=aa Tj;have HR5:=aa hR5;have HM5:=aa (qa Tj.z);have c5:w5.cell? ⟨p,5,none⟩=some (.int .i64 0):=by rw[Tj.z.cell];rfl
      clear Tj hR5 ab9 vJ HS;go_wp2_with fail;exact⟨⟨k+n,b,q,v',_,by omega,by rw[iJ];simp;omega,HS5,HR5⟩,by rw[HM5.out,HMU.out];omega⟩
     |bad er=>
      obtain⟨b,q,v',Xn,nc⟩:=iI;obtain⟨hR5,ak3⟩:=vJ.out er rfl;have HR5:=aa hR5;have pc:Hid (Below w.heap.size w w5):=aa (by rw[←HP.out];exact nc);have c1:w5.cell? ⟨p,1,none⟩=some (.int .i64 (k:Int)):=by rw[Xn.cell];rfl
      have c5:w5.cell? ⟨p,5,none⟩=some (.int .i64 (er:Int)):=by rw[Xn.cell];rfl
      have y5:((er:Int) != 0)=true:=by rw[jA];omega
      clear Xn nc hR5 ab9 vJ HS ak3;go_wp2_with fail;go_region_held3 (fun w'=>w'.cell? ⟨p,1,none⟩=some (.int .i64 (k:Int))∧w'.cell? ⟨p,5,none⟩=some (.int .i64 (er:Int))) (first|go_keep) (first|fail);go_wp2_with fail;refine cB (iu rfl _ _ _) rfl ?_;exact fu.bad HR5.out pc.out.drew
   ·have uv:k=s.size:=by omega
    have h2:R=(ts,none):=by rw[HR.out,uv,OC (by rw[ab];omega),sU,mz]
    have H2:=aa h2;clear h2 HR;go_wp2_with fail;refine cB (iu rfl _ _ _) rfl ?_;have h3:R.1=ts:=by rw[H2.out]
    exact fu.aeD (by rw[H2.out]) (by rw[h3,←HP.out];exact HS.out.own) (by rw[←HP.out];exact HS.out.below)
theorem o3 (w:World) (s:ByteArray) (hs:s.size≤1048576):
  Calls prog 52 #[.string s] w (fN w (fB s)):=by
 obtain⟨R,hR⟩: ∃R,R=eX s.data.toList:=⟨_,rfl⟩;have hk:fB s=L8 s.data.toList R:=by rw[hR];rfl
 have HK:=aa hk;have HR:=aa hR;have HE:=aa (show ∀a e,R.2=some (a,e)→e≠0 from fun a e h=>(zv (by rw[←hR];exact h)).1);have HL:Hid (R.1.length≤1048576):=aa (by
  have h1:=(zw s.data.toList).1;rw[←hR,ab]at h1;omega)
 clear hk hR;go_enter func52,ntmps52;go_wp2_with fail;refine(Vw _ s (by omega)).mono ?_;intro e w2 hp;obtain⟨ao,ca,rfl,hoa,PT,aN⟩:=hp.open;rw[←HR.out]at hoa PT ⊢
 have HB:=aa aN;have LN:=aa PT;clear hoa PT hp aN;obtain⟨ts,er⟩:=R;cases er with
 |some f=>
  obtain⟨a,c⟩:=f;have he:=HE a c rfl;have hc:((c:Int)==0)=false:=by rw[bN];omega
  have kr:((c:Int) != 0)=true:=by rw[bne,hc];rfl
  simp only[rN,za,gR];have H0:Hid (fB s=0):=aa (by rw[HK.out];cases ts with|nil=>rfl|cons t ts=>cases ts<;>rfl);clear HK HE LN HR HL;go_wp2_with fail;go_ret;exact⟨by rw[H0.out];rfl,HB⟩
 |none=>
  simp only[rN,za,gR]at LN ⊢
  obtain⟨ao',c',hv,hc⟩:=LN.out;cases ts with
  |nil=>
   have H0:Hid (fB s=0):=aa (by rw[HK.out];rfl);clear HK HE LN HR HL hv hc;go_wp2_with fail;go_ret;exact⟨by rw[H0.out];rfl,HB⟩
  |cons t ts=>
   cases ts with
   |cons t2 ts=>
    have H0:Hid (fB s=0):=aa (by rw[HK.out];rfl);have hl:((((t::t2::ts).length:Nat):Int)==1)=false:=by rw[bN];simp only[dZ];omega
    have Az:((((t::t2::ts).length:Nat):Int) != 1)=true:=by rw[bne,hl];rfl
    clear HK HE LN HR HL hv hc;generalize (t::t2::ts).length=n at hl Az ⊢
    go_wp2_with fail;go_ret;exact⟨by rw[H0.out];rfl,HB⟩
   |nil=>
    obtain⟨g,o,Xp,hg,h0,h1,h2⟩:=hc 0 (by simp);injection hv with SL PN SN
    subst SL Xp;simp only[kO,rj,IX,DT,yT,iK,dZ,nW,kP]at h0 h1 h2 ⊢
    clear PN SN hc LN HR HE HL h2;by_cases he:t.text=s.data.toList
    ·have H0:Hid (fB s=t.kind):=aa (by rw[HK.out];simp[L8,he]);rw[he,mk_data]at h1;clear HK he;go_wp2_with fail;go_ret;exact⟨by rw[H0.out];rfl,HB⟩
    ·have H0:Hid (fB s=0):=aa (by rw[HK.out];simp[L8,he]);have bZ: ¬(⟨t.text.toArray⟩:ByteArray)=s:=fun h=>he (by rw[←h])
     obtain⟨x,hx⟩: ∃x:ByteArray,x=⟨t.text.toArray⟩:=⟨_,rfl⟩;rw[←hx]at h1 bZ;have XO:(x.toList==s.toList)=false:=TZ bZ;clear HK he hx bZ;go_wp2_with fail;go_ret;exact⟨by rw[H0.out];rfl,HB⟩
theorem mc (w:World) (s:ByteArray) (hs:s.size≤1048576):
  Calls prog 56 #[.string s] w (aG w (fC s)):=by
 have HC:=aa (o3 w s hs);have HD:Hid (fC s=(((fB s:Nat):Int)==4)):=aa (by unfold fC;rw[eH];simp;omega);go_enter func56,ntmps56;go_wp2_with fail;refine HC.mono ?_;rintro e w2 ⟨rfl,hb⟩;have HB:=aa hb;clear hb;go_wp2_with fail;go_ret;exact⟨by rw[HD.out];rfl,HB⟩
theorem Nz (w:World) (s:ByteArray) (hs:s.size≤1048576):
  Calls prog 50 #[.string s] w (aG w (iv s)):=by
 have HC:=aa (o3 w s hs);have HD:Hid (iv s=(((fB s:Nat):Int)==3||((fB s:Nat):Int)==4)):=aa (by unfold iv;rw[eH];simp;omega);generalize fB s=k at HC HD;go_enter func50,ntmps50;go_wp2_with fail;refine HC.mono ?_;rintro e w2 ⟨rfl,hb⟩;have HB:=aa hb;clear hb HC;by_cases h3:k=3
 ·subst h3;go_wp2_with fail;go_ret;exact⟨by rw[HD.out];rfl,HB⟩
 ·have h3':((k:Int)==3)=false:=by rw[bN];omega
  clear h3;go_wp2_with fail;go_ret;exact⟨by rw[HD.out,h3'];rfl,HB⟩
theorem zO (w:World) (s:ByteArray) (hs:s.size≤1048576):Calls prog 53 #[.string s] w (aG w (word s.data.toList)):=by
 have HC:=aa (Up s w (by unfold maxLen;omega));generalize word s.data.toList=b at HC ⊢
 go_enter func53,ntmps53;go_wp2_with fail;refine HC.mono ?_;rintro e w2 ⟨rfl,hb⟩;have HB:=aa hb;clear hb;go_wp2_with fail;go_ret;exact⟨rfl,HB⟩
theorem all_succ {α:Type} {l:List α} (h:j<l.length) (p:α→Bool):(l.take (j+1)).all p=((l.take j).all p&&p l[j]):=by rw[jy h,Ja];simp
theorem Ua {α:Type} {l:List α} (h:j<l.length) {p:α→Bool} (hp:p l[j]=false):l.all p=false:=by
 rw[EC];exact⟨_,jz h,by rw[hp];simp⟩
theorem uZ (h:cU b w v ss) (hn:ss.length≤1048576) (hs: ∀s∈ss,s.size≤1048576):Calls prog 59 #[v] w (aG w (bJ ss)):=by
 obtain⟨ao,c,rfl,hc⟩:=h;have HC:=aa hc;have HS:=aa hs;clear hc hs;go_enter func59,ntmps59;go_wp2_with fail;go_loopw [3] (fun t3 W=> ∃j:Nat,t3= .int .i64 (j:Int)∧Hid (j≤ss.length∧(ss.take j).all (fun s=>dN s.data.toList)=true∧Below w.heap.size w W)) (fun t3 _=>ss.length-(intOf t3).toNat)
 case atStart=>exact⟨0,rfl,aa ⟨dQ _,rfl,aV _ _⟩⟩
 case round=>
  obtain⟨j,rfl,hI⟩:=hrel;by_cases ax:j<ss.length
  ·have p1:((j:Int)<(ss.length:Int))=True:=aA (by omega);obtain⟨g,o,rfl,_,hg,hx⟩:=HC.out j ax;have c0:wr.cell? ⟨g,o+j,none⟩=some (.string ss[j]):=(hI.out.2.2.cell (p:=⟨g,_,none⟩) hg).trans hx;have hz:=HS.out ss[j] (jz ax);obtain⟨bb,yB⟩: ∃bb,bb=dN ss[j].data.toList:=⟨_,rfl⟩;have Iu:Hid (∀W,Calls prog 75 #[.string ss[j]] W fun e w'=>e= .returned (.bool bb)∧W=w'):=aa fun W=>by rw[yB];exact zg ss[j] W (by unfold maxLen;omega)
   have xw:=aa (all_succ ax (fun s=>dN s.data.toList));have HNO:Hid (bb=false→bJ ss=false):=aa fun h=>Ua ax (by rw[←yB,h])
   have gy:=aa yB;clear hx hz yB;cases bb
   ·go_wp2_with (go_at_call 75;(with_reducible refine(Iu.out _).mono ?_);rintro e w' ⟨rfl,rfl⟩);go_ret;exact⟨by rw[HNO.out (by first|rfl|trivial)];rfl,hI.out.2.2⟩
   ·go_wp2_with (go_at_call 75;(with_reducible refine(Iu.out _).mono ?_);rintro e w' ⟨rfl,rfl⟩);go_roundw
    case rel=>exact⟨j+1,by go_num,aa ⟨ax,by rw[xw.out,hI.out.2.1,←gy.out];rfl,hI.out.2.2⟩⟩
    case measure=>simp[intOf];omega
  ·have p1:((j:Int)<(ss.length:Int))=False:=bU (by omega);have HF:Hid (bJ ss=true):=aa (by have:=hI.out.2.1;rwa [A3 (by omega)]at this);go_wp2_with fail;go_ret;exact⟨by rw[HF.out];rfl,hI.out.2.2⟩
theorem Hr (h:eI b w v ms) (hn:ms.length≤1048576) (hs: ∀m∈ms,m.name.size≤1048576∧m.value.size≤1048576):Calls prog 54 #[v] w (aG w (ms.all cP)):=by
 obtain⟨ao,c,rfl,hc⟩:=h;have HC:=aa hc;have HS:=aa hs;clear hc hs;go_enter func54,ntmps54;go_wp2_with fail;go_loopw [3] (fun t3 W=> ∃j:Nat,t3= .int .i64 (j:Int)∧Hid (j≤ms.length∧(ms.take j).all cP=true∧Below w.heap.size w W)) (fun t3 _=>ms.length-(intOf t3).toNat)
 case atStart=>exact⟨0,rfl,aa ⟨dQ _,rfl,aV _ _⟩⟩
 case round=>
  obtain⟨j,rfl,hI⟩:=hrel;by_cases ax:j<ms.length
  ·have p1:((j:Int)<(ms.length:Int))=True:=aA (by omega);obtain⟨g,o,rfl,_,hg,ZH,lC,mx⟩:=HC j ax;have c0:wr.cell? ⟨g,o+j*3,none⟩=some (.string ms[j].name):=(hI.2.2.cell (p:=⟨g,_,none⟩) hg).trans ZH;have c1:wr.cell? ⟨g,o+j*3+1,none⟩=some (.int .i64 ms[j].op):=(hI.2.2.cell (p:=⟨g,_,none⟩) hg).trans lC;have c2:wr.cell? ⟨g,o+j*3+2,none⟩=some (.string ms[j].value):=(hI.2.2.cell (p:=⟨g,_,none⟩) hg).trans mx;have hz:=HS ms[j] (jz ax);have xw:=aa (all_succ ax cP);have HNO:=aa fun(h:cP ms[j]=false)=>Ua ax h
   obtain⟨m,hm⟩: ∃m,m=ms[j]:=⟨_,rfl⟩;rw[←hm]at c0 c1 c2 hz xw HNO;obtain⟨b1,aW⟩: ∃bb,bb=dN m.name.data.toList:=⟨_,rfl⟩;obtain⟨b2,aN⟩: ∃bb,bb=valid m.value.data.toList:=⟨_,rfl⟩;have Iu:Hid (∀W,Calls prog 75 #[.string m.name] W fun e w'=>e= .returned (.bool b1)∧W=w'):=aa fun W=>by rw[aW];exact zg m.name W (by unfold maxLen;omega)
   have HCV:Hid (∀W,Calls prog 51 #[.string m.value] W fun e w'=>e= .returned (.bool b2)∧Below W.heap.size W w'):=aa fun W=>by rw[aN];exact kd m.value W (by omega)
   have HM:Hid (cP m=(b1&&decide (1≤m.op)&&decide (m.op≤4)&&b2)):=aa (by rw[aW,aN];rfl);obtain⟨op,vp⟩: ∃op,op=m.op:=⟨_,rfl⟩;rw[←vp]at c1 HM;clear ZH lC mx hz hm aW aN vp;rcases(show ((op<1)=True∧decide (1≤op)=false∧decide (op≤4)=true)∨((op<1)=False∧(4<op)=True∧decide (1≤op)=true∧decide (op≤4)=false)∨((op<1)=False∧(4<op)=False∧decide (1≤op)=true∧decide (op≤4)=true)by
    rcases Int.lt_or_le op 1 with h|h
    ·exact .inl ⟨aA h,gA (by omega),dR (by omega)⟩
    ·rcases Int.lt_or_le 4 op with h4|h4
     ·exact .inr (.inl ⟨bU (by omega),aA h4,dR h,gA (by omega)⟩)
     ·exact .inr (.inr ⟨bU (by omega),bU (by omega),dR h,dR h4⟩))with⟨q1,d1,d2⟩|⟨q1,q2,d1,d2⟩|⟨q1,q2,d1,d2⟩
   all_goals
    rw[d1,d2]at HM;clear d1 d2;cases b1<;>cases b2
   all_goals
    go_wp2_with (first|(go_at_call 75;(with_reducible refine(Iu.out _).mono ?_);rintro e w' ⟨rfl,rfl⟩)|(go_at_call 51;(with_reducible refine(HCV.out _).mono ?_);rintro e w2 ⟨rfl,hb⟩;have bC:=aa (hI.2.2.trans (hb.mono hI.2.2.size));clear hb))
    first
    |go_ret
     exact⟨by rw[HNO.out (by rw[HM.out];rfl)];rfl,by first|exact bC|exact hI.2.2⟩
    |go_roundw
     case rel=>exact⟨j+1,by go_num,aa ⟨ax,by rw[xw.out,hI.out.2.1,HM.out];rfl,bC⟩⟩
     case measure=>simp[intOf];omega
  ·have p1:((j:Int)<(ms.length:Int))=False:=bU (by omega);have HF:Hid (ms.all cP=true):=aa (by have:=hI.2.1;rwa [A3 (by omega)]at this);go_wp2_with fail;go_ret;exact⟨by rw[HF.out];rfl,hI.2.2⟩
theorem FE (h:cU b w v ss) (hn:ss.length≤1048576):Calls prog 57 #[.string s,v] w fun e w'=>e= .returned (.bool (ss.any fun x=>x.data.toList==s.data.toList))∧w=w':=by
 obtain⟨ao,c,rfl,hc⟩:=h;have HC:=aa hc;clear hc;go_enter func57,ntmps57;go_wp2_with fail;go_loopw [5] (fun t5 W=> ∃j:Nat,t5= .int .i64 (j:Int)∧Hid (j≤ss.length∧(ss.take j).any (fun x=>x.data.toList==s.data.toList)=false)∧W=w) (fun t5 _=>ss.length-(intOf t5).toNat)
 case atStart=>exact⟨0,rfl,aa ⟨dQ _,rfl⟩,rfl⟩
 case round=>
  obtain⟨j,rfl,hI,rfl⟩:=hrel;by_cases ax:j<ss.length
  ·have p1:((j:Int)<(ss.length:Int))=True:=aA (by omega);obtain⟨g,o,rfl,_,hg,hx⟩:=HC.out j ax;have xw:Hid ((ss.take (j+1)).any (fun x=>x.data.toList==s.data.toList)=((ss.take j).any (fun x=>x.data.toList==s.data.toList)||(ss[j].data.toList==s.data.toList))):=aa (by rw[jy ax,List.any_append];simp);have af2:Hid ((ss[j].data.toList==s.data.toList)=true→ss.any (fun x=>x.data.toList==s.data.toList)=true):=aa fun h=>List.any_eq_true.2 ⟨_,jz ax,h⟩
   have he:(ss[j].toList==s.toList)=(ss[j].data.toList==s.data.toList):=by rw[nS,nS]
   have HE:=aa he;generalize ss[j]=x at hx xw af2 he HE;rcases IW (x.data.toList==s.data.toList)with hb|hb
   all_goals
    rw[hb]at he;have HB:=aa hb;clear hb
   ·have Zs:x=s:=by have:=cC.1 HB.out;rw[←mk_data x,←mk_data s,this]
    subst Zs;go_wp2_with fail;go_ret;exact⟨by rw[af2.out HB.out];rfl,rfl⟩
   ·go_wp2_with fail;go_roundw
    case rel=>exact⟨j+1,by go_num,aa ⟨ax,by rw[xw.out,hI.out.2,HB.out];rfl⟩,by first|rfl|trivial⟩
    case measure=>simp[intOf];omega
  ·have p1:((j:Int)<(ss.length:Int))=False:=bU (by omega);have HF:Hid (ss.any (fun x=>x.data.toList==s.data.toList)=false):=aa (by have:=hI.out.2;rwa [A3 (by omega)]at this);go_wp2_with fail;go_ret;exact⟨by rw[HF.out];rfl,rfl⟩
