import Derived.Test.YtcdoilkjmjbgmaaGreatDoorS06
/- Part of the proof of YtcdoilkjmjbgmaaGreatDoorCardY: LexN. -/
set_option maxRecDepth 100000
set_option maxHeartbeats 4000000
set_option linter.unusedVariables false
set_option linter.unusedSimpArgs false
namespace Go.Proofs.YtcdoilkjmjbgmaaGreatDoor
open Go.RowKit
open Go.Proofs.Tryz
variable {base p at':Nat} {s:ByteArray} {br sq:Bool} {ts:List Tok} {w w':World} {e:Ending} {c:UInt8} {T:Nat→World→Prop}
theorem cA.from {base p:Nat} {s:ByteArray} {at':Nat} {br sq:Bool} {ts:List Tok} {w w1 w':World} {r:AO} {e:Ending} (h:cA base p s at' br sq ts w1 r e w') (hb:Below base w w1):cA base p s at' br sq ts w r e w':=by
 cases r with
 |bad k=>
  obtain⟨h1,v,h2,h3,h4⟩:=h;exact⟨h1,v,h2,h3,hb.trans h4⟩
 |tok k n b q=>exact nu.from h hb
theorem cA.ret {r:AO} (h:cA base p s at' br sq ts w r e w'): ∃k:Nat,e= .returned (.int .i64 (k:Int)):=by
 cases r with
 |bad k=>exact⟨k,h.1⟩
 |tok k n b q=>exact⟨0,h.1⟩
theorem F4 (h1:((c.toNat:Int)==34)=false) (h2:((c.toNat:Int)==39)=false) (h3:((c.toNat:Int)==96)=false): ¬dC c=true:=by
 have n1:=pd (n:=34) (by omega) rfl h1;have n2:=pd (n:=39) (by omega) rfl h2;have n3:=pd (n:=96) (by omega) rfl h3;intro h;simp only[dC,tu,cx]at h;rcases h with(h|h)|h
 ·exact n1 h
 ·exact n2 h
 ·exact n3 h
theorem ac0 (h:(c.toNat:Int)=34∨(c.toNat:Int)=39∨(c.toNat:Int)=96):dC c=true:=by
 simp only[dC,tu,cx];rcases h with h|h|h
 ·exact .inl (.inl (cJ (n:=34) (by omega) (by omega)))
 ·exact .inl (.inr (cJ (n:=39) (by omega) (by omega)))
 ·exact .inr (cJ (n:=96) (by omega) (by omega))
theorem Qv {ok:List UInt8→Prop} (hT:pv ok T) (w:World) (base p:Nat) (s:ByteArray) (at':Nat) (br sq:Bool) (v:Value) (ts:List Tok) (hs:s.size≤281474976710) (cI:at'<s.size) (cH:Tn ok (s.data.toList.drop at')) (kp:T base w)
  (hz:qH w p s at' br sq v) (aP:w.ownsRow base 139 3 v ts.length (aO ts)) (hlen:ts.length≤1099511627776) (gN:base≤p):
  Calls prog 134 #[.pointer (some ⟨p,0,none⟩)] w (cA base p s at' br sq ts w (aZ (s.data.toList.drop at') br sq)):=by
 obtain⟨col,FU⟩: ∃c,c=(!br&& !sq):=⟨_,rfl⟩;have H4:(br=false∧sq=false∧col=true)∨(br=false∧sq=true∧col=false)∨(br=true∧sq=false∧col=false)∨(br=true∧sq=true∧col=false):=by
  rw[FU];cases br<;>cases sq<;>simp
 have HC:=ae FU;clear FU;have c0:w.cell? ⟨p,0,none⟩=some (.string s):=by rw[hz.cell];rfl
 have c1:w.cell? ⟨p,1,none⟩=some (.int .i64 (at':Int)):=by rw[hz.cell];rfl
 have q1:((at':Int)≤(s.size:Int))=True:=by simp;omega
 obtain⟨t,ht⟩: ∃t,t=s.extract at' s.size:=⟨_,rfl⟩;have qG:t.data.toList=s.data.toList.drop at':=by rw[ht,fX]
 have KV:t.size=s.size-at':=by rw[ht];simp
 have ht0:0<t.size:=by omega
 have aA:=hz.lt;have HZ:=ae hz;have HO:=ae aP;have HD:=ae qG;have HT:=ae ht;have HW:=ae kp;have FD:=ae cH;clear hz aP qG ht kp cH;go_enter func134,ntmps134;go_wp2_with fail;go_quiet (fail);rw[←HT.out];have ej:qH (w.drewN nq) p s at' br sq v:=aM.drewN HZ.out nq;have D5:(w.drewN nq).ownsRow base 139 3 v ts.length (aO ts):=HO.out;have aQ:Below base w (w.drewN nq):=bZ (aU base w) nq;have Sm:=hT.fQ HW.out aQ;generalize w.drewN nq=w2 at ej D5 aQ Sm ⊢
 have d0:w2.cell? ⟨p,0,none⟩=some (.string s):=by rw[ej.cell];rfl
 have d1:w2.cell? ⟨p,1,none⟩=some (.int .i64 (at':Int)):=by rw[ej.cell];rfl
 have d2:w2.cell? ⟨p,2,none⟩=some (.bool br):=by rw[ej.cell];rfl
 have d3:w2.cell? ⟨p,3,none⟩=some (.bool sq):=by rw[ej.cell];rfl
 have xp:au t.data.toList 0=t[0]:=ay ht0;have iE:=ae ej;have lD:=ae D5;have bF:=ae aQ;have HA:=ae xp;have Dk:=ae Sm;have Xh:base≤w2.heap.size:=jk (o7 gN ej.lt);clear ej D5 aQ xp c0 c1 Sm;cases hl:letter t[0]
 ·rcases H4 with⟨hb,hq,rfl⟩|⟨hb,hq,rfl⟩|⟨hb,hq,rfl⟩|⟨hb,hq,rfl⟩
  all_goals
   cases tj:((t[0].toNat:Int)==58)
   ·cases hg:digit t[0]
    ·cases se:((t[0].toNat:Int)==46)
     ·have qI: ¬(digit t[0]=true∨(t[0].toNat=46∧1<t.data.toList.length∧digit (au t.data.toList 1)=true)):=by
       rintro(h|⟨h,_⟩)
       ·rw[hg]at h;simp at h
       ·have:=kE se;omega
      have Ls:=ae qI;clear qI;by_cases hqt:(t[0].toNat:Int)=34∨(t[0].toNat:Int)=39∨(t[0].toNat:Int)=96
      ·have HQT:=ae (ac0 hqt);have hqs:((t[0].toNat:Int)==34)=true∨(((t[0].toNat:Int)==34)=false∧((t[0].toNat:Int)==39)=true)∨(((t[0].toNat:Int)==34)=false∧((t[0].toNat:Int)==39)=false∧((t[0].toNat:Int)==96)=true):=by
        rcases hqt with q|q|q<;>rw[q]<;>decide
       clear hqt;rcases hqs with Wu|⟨Wu,Xi⟩|⟨Wu,Xi,ZE⟩
       all_goals
        have hR:aZ t.data.toList br sq=s6 t.data.toList br sq:=by
         rw[aZ,HA.out,hl,ah (by simp),ah (by rintro⟨h,h'⟩;first|(have:=kE tj;omega)|(have h2:=HC.out;rw[h']at h2;cases h2)),ah Ls.out,az HQT.out]
        have HR:=ae hR;clear hR;go_wp2_with (first|(go_at_call 118;refine(bw _ _).mono ?_;rintro e w' ⟨rfl,rfl⟩)|(go_at_call 135;refine(cz _ _).mono ?_;rintro e w' ⟨rfl,rfl⟩));go_quiet ((go_at_call 149;exact Calls.quiet_of_same ((nF s at' _ (by omega)).mono fun _ _ ⟨h1,h2⟩=>⟨h1,h2.symm⟩)));have mh:qH (w2.drewN nq) p s at' br sq v:=aM.drewN iE.out nq;have qe:(w2.drewN nq).ownsRow base 139 3 v ts.length (aO ts):=lD.out;have cu:Below base w (w2.drewN nq):=bZ bF.out nq;have g0:(w2.drewN nq).cell? ⟨p,0,none⟩=some (.string s):=d0;have g1:(w2.drewN nq).cell? ⟨p,1,none⟩=some (.int .i64 (at':Int)):=d1;clear d0 d1 d2 d3;generalize w2.drewN nq=w3 at mh qe cu g0 g1 ⊢
        have hle:=yV s.data.toList at';rw[←HD.out]at hle;have sQ:=ae mh;have qL:=ae qe;have fZ:=ae cu;clear mh qe cu;cases he:bC t.data.toList 0 with
        |none=>
         rw[he]at hle;have hS:s6 t.data.toList br sq= .bad 111:=by rw[s6,he]
         have HS:=ae hS;rw[hle];clear hS hle he;simp only[jN,nS,Option.map_none];go_wp2_with fail;go_ret;subst hb hq;rw[←HD.out,HR.out,HS.out];exact⟨rfl,v,sQ.out,qL.out,fZ.out⟩
        |some n=>
         rw[he]at hle;have hn:=xJ he;rw[af]at hn;have hxt:(s.extract at' (n+at')).data.toList=t.data.toList.take n:=by
          rw[Lib.extract_data,HD.out,show n+at'-at'=n by omega]
         have ZF:(s.extract at' (n+at')).size≤281474976710:=by simp;omega
         have r1:((at':Int)≤(n:Int)+(at':Int))=True:=by simp;omega
         have r2:((n:Int)+(at':Int)≤(s.size:Int))=True:=by simp;omega
         have r3:(0≤(n:Int)+(at':Int))=True:=by simp;omega
         have r4:((n:Int)+(at':Int)).toNat=n+at':=by omega
         have Xj:p<w3.heap.size:=sQ.out.lt;have Xk:=ae he;have HXT:=ae hxt;rw[hle];clear hle he hxt;simp only[jN,nS,Option.map_some];go_wp2_with fail;go_region_held3 (fun w'=>w'.cell? ⟨p,0,none⟩=some (.string s)∧w'.cell? ⟨p,1,none⟩=some (.int .i64 (at':Int))) (first|go_keep) (first|(go_at_call 150;refine(JX (s.extract at' (n+at')) _ ZF).mono ?_;rintro e w4 ⟨rfl,fe⟩;have k0:w4.cell? ⟨p,0,none⟩=some (.string s):=(fe.cell (p:=⟨p,0,none⟩) Xj).trans g0;have k1:w4.cell? ⟨p,1,none⟩=some (.int .i64 (at':Int)):=(fe.cell (p:=⟨p,1,none⟩) Xj).trans g1;have ml:=ae fe;clear fe));have fe:=((aU w3.heap.size w3).drew).trans ml.out;have oZ:=sQ.out.below fe;have Hl:=eQ qL.out fe;have lj:=fZ.out.trans (fe.mono (jk (o7 gN Xj)));have m1:w4.cell? ⟨p,1,none⟩=some (.int .i64 (at':Int)):=by rw[oZ.cell];rfl
         have hS:s6 t.data.toList br sq=if (lM (t.data.toList.take n)).1=0 then .tok 5 n br sq else .bad 111:=by rw[s6,Xk.out]
         rw[HD.out]at hS;obtain⟨uq,huq⟩: ∃uq,uq=(lM (List.take n (List.drop at' s.data.toList))).1:=⟨_,rfl⟩;rw[←huq]at hS ⊢
         have HS:=ae hS;have Wt:=ae oZ;have Ps:=ae Hl;have mW:=ae lj;clear hS huq oZ Hl lj fe g0 g1;cases hu:((uq:Int) != 0)
         ·go_wp2_with fail;refine(eR w4 base p s at' 5 n _ _ rfl (by first|rfl|omega) br sq v ts (by omega) (by omega) (by omega) Wt.out Ps.out hlen gN).mono ?_;intro e w5 hp;have h0:=hp.1;subst h0;have HQ:=ae (hp.from mW.out);clear hp;go_wp2_with fail;go_ret;subst hb hq;rw[←HD.out,HR.out,HD.out,HS.out,az (AP hu)];exact HQ.out
         ·go_wp2_with fail;go_ret;subst hb hq;rw[←HD.out,HR.out,HD.out,HS.out,ah (zO hu)];exact⟨rfl,v,Wt.out,Ps.out,mW.out⟩
      ·have Wu:((t[0].toNat:Int)==34)=false:=bN.2 (fun e=>hqt (.inl e));have Xi:((t[0].toNat:Int)==39)=false:=bN.2 (fun e=>hqt (.inr (.inl e)));have ZE:((t[0].toNat:Int)==96)=false:=bN.2 (fun e=>hqt (.inr (.inr e)));clear hqt;have HQF:=ae (F4 Wu Xi ZE);have hR:aZ t.data.toList br sq=sc t.data.toList br sq:=by
        rw[aZ,HA.out,hl,ah (by simp),ah (by rintro⟨h,h'⟩;first|(have:=kE tj;omega)|(have h2:=HC.out;rw[h']at h2;cases h2)),ah Ls.out,ah HQF.out]
       have HR:=ae hR;clear hR;go_wp2_with (first|(go_at_call 118;refine(bw _ _).mono ?_;rintro e w' ⟨rfl,rfl⟩)|(go_at_call 135;refine(cz _ _).mono ?_;rintro e w' ⟨rfl,rfl⟩));refine(lR w2 base p s at' br sq v ts (by omega) cI iE.out lD.out hlen gN).mono ?_;intro e w5 hp;obtain⟨k0,h0⟩:=cA.ret hp;subst h0;have HQ:=ae (hp.from bF.out);clear hp;go_wp2_with fail;go_ret;subst hb hq;rw[←HD.out,HR.out]
       first
        |exact HQ.out
        |(rw[HD.out];exact HQ.out)
     ·by_cases h1:1<t.size
      ·have ha1:au t.data.toList 1=t[1]:=ay h1;cases qf:digit t[1]
       ·have qI: ¬(digit t[0]=true∨(t[0].toNat=46∧1<t.data.toList.length∧digit (au t.data.toList 1)=true)):=by
         rintro(h|⟨_,_,h⟩)
         ·rw[hg]at h;simp at h
         ·rw[ha1,qf]at h;simp at h
        have Ls:=ae qI;clear qI ha1;have Wu:((t[0].toNat:Int)==34)=false:=by have:=jn se;rw[this];rfl
        have Xi:((t[0].toNat:Int)==39)=false:=by have:=jn se;rw[this];rfl
        have ZE:((t[0].toNat:Int)==96)=false:=by have:=jn se;rw[this];rfl
        have HQF:=ae (F4 Wu Xi ZE);have hR:aZ t.data.toList br sq=sc t.data.toList br sq:=by
         rw[aZ,HA.out,hl,ah (by simp),ah (by rintro⟨h,h'⟩;first|(have:=kE tj;omega)|(have h2:=HC.out;rw[h']at h2;cases h2)),ah Ls.out,ah HQF.out]
        have HR:=ae hR;clear hR;go_wp2_with (first|(go_at_call 118;refine(bw _ _).mono ?_;rintro e w' ⟨rfl,rfl⟩)|(go_at_call 135;refine(cz _ _).mono ?_;rintro e w' ⟨rfl,rfl⟩));refine(lR w2 base p s at' br sq v ts (by omega) cI iE.out lD.out hlen gN).mono ?_;intro e w5 hp;obtain⟨k0,h0⟩:=cA.ret hp;subst h0;have HQ:=ae (hp.from bF.out);clear hp;go_wp2_with fail;go_ret;subst hb hq;rw[←HD.out,HR.out]
        first
         |exact HQ.out
         |(rw[HD.out];exact HQ.out)
       ·have hw:t[0].toNat=46∧1<t.data.toList.length∧digit (au t.data.toList 1)=true:=⟨by have:=jn se;omega,by rw[af];exact h1,by rw[ha1];exact qf⟩;have HNW:=ae hw;clear hw ha1;have hR:aZ t.data.toList br sq=bG t.data.toList br sq:=by
         rw[aZ,HA.out,hl,ah (by simp),ah (by rintro⟨h,h'⟩;first|(have:=kE tj;omega)|(have h2:=HC.out;rw[h']at h2;cases h2)),az (.inr HNW.out)]
        have HR:=ae hR;clear hR;go_wp2_with (first|(go_at_call 118;refine(bw _ _).mono ?_;rintro e w' ⟨rfl,rfl⟩)|(go_at_call 135;refine(cz _ _).mono ?_;rintro e w' ⟨rfl,rfl⟩));refine(Cl hT w2 base p s at' br sq v ts (by omega) cI (FD.out (by rw[←HD.out,Av,HA.out];exact(.inr HNW.out))) Dk.out iE.out lD.out hlen gN).mono ?_;intro e w5 hp;obtain⟨k0,h0⟩:=cA.ret hp;subst h0;have HQ:=ae (hp.from bF.out);clear hp;go_wp2_with fail;go_ret;subst hb hq;rw[←HD.out,HR.out]
        first
         |exact HQ.out
         |(rw[HD.out];exact HQ.out)
      ·have qI: ¬(digit t[0]=true∨(t[0].toNat=46∧1<t.data.toList.length∧digit (au t.data.toList 1)=true)):=by
        rintro(h|⟨_,h,_⟩)
        ·rw[hg]at h;simp at h
        ·rw[af]at h;exact h1 h
       have Ls:=ae qI;clear qI;have Wu:((t[0].toNat:Int)==34)=false:=by have:=jn se;rw[this];rfl
       have Xi:((t[0].toNat:Int)==39)=false:=by have:=jn se;rw[this];rfl
       have ZE:((t[0].toNat:Int)==96)=false:=by have:=jn se;rw[this];rfl
       have HQF:=ae (F4 Wu Xi ZE);have hR:aZ t.data.toList br sq=sc t.data.toList br sq:=by
        rw[aZ,HA.out,hl,ah (by simp),ah (by rintro⟨h,h'⟩;first|(have:=kE tj;omega)|(have h2:=HC.out;rw[h']at h2;cases h2)),ah Ls.out,ah HQF.out]
       have HR:=ae hR;clear hR;go_wp2_with (first|(go_at_call 118;refine(bw _ _).mono ?_;rintro e w' ⟨rfl,rfl⟩)|(go_at_call 135;refine(cz _ _).mono ?_;rintro e w' ⟨rfl,rfl⟩));refine(lR w2 base p s at' br sq v ts (by omega) cI iE.out lD.out hlen gN).mono ?_;intro e w5 hp;obtain⟨k0,h0⟩:=cA.ret hp;subst h0;have HQ:=ae (hp.from bF.out);clear hp;go_wp2_with fail;go_ret;subst hb hq;rw[←HD.out,HR.out]
       first
        |exact HQ.out
        |(rw[HD.out];exact HQ.out)
    ·have hR:aZ t.data.toList br sq=bG t.data.toList br sq:=by
      rw[aZ,HA.out,hl,ah (by simp),ah (by rintro⟨h,h'⟩;first|(have:=kE tj;omega)|(have h2:=HC.out;rw[h']at h2;cases h2)),az (.inl hg)]
     have HR:=ae hR;clear hR;go_wp2_with (first|(go_at_call 118;refine(bw _ _).mono ?_;rintro e w' ⟨rfl,rfl⟩)|(go_at_call 135;refine(cz _ _).mono ?_;rintro e w' ⟨rfl,rfl⟩));refine(Cl hT w2 base p s at' br sq v ts (by omega) cI (FD.out (by rw[←HD.out,Av,HA.out];exact(.inl hg))) Dk.out iE.out lD.out hlen gN).mono ?_;intro e w5 hp;obtain⟨k0,h0⟩:=cA.ret hp;subst h0;have HQ:=ae (hp.from bF.out);clear hp;go_wp2_with fail;go_ret;subst hb hq;rw[←HD.out,HR.out]
     first
      |exact HQ.out
      |(rw[HD.out];exact HQ.out)
   ·first
    |have hg:digit t[0]=false:=by have:=jn tj;simp[digit];omega
     have se:((t[0].toNat:Int)==46)=false:=bN.2 (by have:=jn tj;omega);have qI: ¬(digit t[0]=true∨(t[0].toNat=46∧1<t.data.toList.length∧digit (au t.data.toList 1)=true)):=by
      rintro(h|⟨h,_⟩)
      ·rw[hg]at h;simp at h
      ·have:=kE se;omega
     have Ls:=ae qI;clear qI;have Wu:((t[0].toNat:Int)==34)=false:=bN.2 (by have:=jn tj;omega);have Xi:((t[0].toNat:Int)==39)=false:=bN.2 (by have:=jn tj;omega);have ZE:((t[0].toNat:Int)==96)=false:=bN.2 (by have:=jn tj;omega);have HQF:=ae (F4 Wu Xi ZE);have hR:aZ t.data.toList br sq=sc t.data.toList br sq:=by
      rw[aZ,HA.out,hl,ah (by simp),ah (by rintro⟨h,h'⟩;first|(have:=kE tj;omega)|(have h2:=HC.out;rw[h']at h2;cases h2)),ah Ls.out,ah HQF.out]
     have HR:=ae hR;clear hR;go_wp2_with (first|(go_at_call 118;refine(bw _ _).mono ?_;rintro e w' ⟨rfl,rfl⟩)|(go_at_call 135;refine(cz _ _).mono ?_;rintro e w' ⟨rfl,rfl⟩));refine(lR w2 base p s at' br sq v ts (by omega) cI iE.out lD.out hlen gN).mono ?_;intro e w5 hp;obtain⟨k0,h0⟩:=cA.ret hp;subst h0;have HQ:=ae (hp.from bF.out);clear hp;go_wp2_with fail;go_ret;subst hb hq;rw[←HD.out,HR.out]
     first
      |exact HQ.out
      |(rw[HD.out];exact HQ.out)
    |have AE:=aW (bn true) t.data.toList 1
     have hn:=bK (bn true) t.data.toList 1 (by rw[af];omega);rw[af]at hn;obtain⟨n,qI⟩: ∃n,n=ag (bn true) t.data.toList 1:=⟨_,rfl⟩;rw[←qI]at hn AE;have hR:aZ t.data.toList br sq= .tok 2 n br sq:=by
      rw[aZ,HA.out,hl,ah (by simp),az ⟨by have:=jn tj;omega,HC.out.symm⟩,qI]
     have HR:=ae hR;have HN:=ae qI;clear hR qI;go_wp2_with (first|(go_at_call 118;refine(bw _ _).mono ?_;rintro e w' ⟨rfl,rfl⟩)|(go_at_call 135;refine(cz _ _).mono ?_;rintro e w' ⟨rfl,rfl⟩));refine(rM t 1 true _ (by unfold maxLen;omega) (by decide)).mono ?_;rintro e w3 ⟨rfl,rfl⟩;rw[←HN.out];go_wp2_with fail;refine(eR w2 base p s at' 2 n _ _ rfl rfl br sq v ts (by omega) (by omega) (by omega) iE.out lD.out hlen gN).mono ?_;intro e w5 hp;have h0:=hp.1;subst h0;have HQ:=ae (hp.from bF.out);clear hp;go_wp2_with fail;go_ret;subst hb hq;rw[←HD.out,HR.out]
     first
      |exact HQ.out
      |(rw[HD.out];exact HQ.out)
 ·rcases H4 with⟨hb,hq,rfl⟩|⟨hb,hq,rfl⟩|⟨hb,hq,rfl⟩|⟨hb,hq,rfl⟩
  all_goals
   have hn:=bK (bn (!br&& !sq)) t.data.toList 0 (aV _);rw[af]at hn;obtain⟨n,qI⟩: ∃n,n=ag (bn (!br&& !sq)) t.data.toList 0:=⟨_,rfl⟩;rw[←qI]at hn;have hR:aZ t.data.toList br sq= .tok (bV br (t.data.toList.take n)) n br sq:=by
    rw[aZ,HA.out,az hl,qI]
   have HR:=ae hR;rw[←HC.out]at qI;have HN:=ae qI;clear hR qI;go_wp2_with (first|(go_at_call 118;refine(bw _ _).mono ?_;rintro e w' ⟨rfl,rfl⟩)|(go_at_call 135;refine(cz _ _).mono ?_;rintro e w' ⟨rfl,rfl⟩));refine(rM t 0 _ _ (by unfold maxLen;omega) (by decide)).mono ?_;rintro e w3 ⟨rfl,rfl⟩;rw[←HN.out];go_wp2_with fail;refine(UO w2 base p s at' n _ rfl br sq v ts (by omega) (by omega) iE.out lD.out hlen gN).mono ?_;intro e w5 hp;have h0:=hp.1;subst h0;have HQ:=ae (hp.from bF.out);clear hp;go_wp2_with fail;go_ret;subst hb hq;rw[←HD.out,HR.out]
   first
    |exact HQ.out
    |(rw[HD.out];exact HQ.out)
