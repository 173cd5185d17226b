import Derived.Test.YtibcjfjacielbaaGreatDoorP13
import Derived.WalkMore
import Derived.ScopeJumps
/- Part of the proof of YtibcjfjacielbaaGreatDoorCardP: FbA. -/
set_option maxRecDepth 100000
set_option maxHeartbeats 4000000
set_option linter.unusedVariables false
set_option linter.unusedSimpArgs false
namespace Go.Proofs.YtibcjfjacielbaaGreatDoor
open Go.RowKit
def Exit.fwd (P:Program) (c:Code) (Q:Exit→Act→World→Prop):Exit→Act→World→Prop
 | .goto l,a,w=> ∃rest,findLabel c l=some rest∧rest.wp P (Exit.noGoto Q) a w
 |e,a,w=>Q e a w
theorem wp_scope_fwd {P:Program} {a:Act} {w:World} {Q:Exit→Act→World→Prop} {c:Code} (first:c.wp P (Exit.fwd P c Q) a w):(Code.scope c).wp P Q a w:=by
 intro b k cs;obtain⟨e,a₁,w₁,hq,harr⟩:=first b (.inScope c::k) cs
 cases e with
 |normal=>exact⟨.normal,a₁,w₁,hq,.head step_scope (Steps.trans harr (.one step_inScope))⟩
 |exit id=>exact⟨.exit id,a₁,w₁,hq,fun k' hk=>.head step_scope (harr k' (by simp[exitTo,hk]))⟩
 |goto l=>
  obtain⟨rest,hf,hrest⟩:=hq;have hg:gotoIn l (.inScope c::k)=some (.code rest:: .inScope c::k):=by simp[gotoIn,hf]
  obtain⟨e₂,a₂,w₂,hq₂,harr₂⟩:=hrest b (.inScope c::k) cs;have h0:Steps P (lone (b.at a (.code (.scope c)::k)) cs w) (lone (b.at a₁ (.code rest:: .inScope c::k)) cs w₁):=.head step_scope (harr _ hg);cases e₂ with
  |normal=>exact⟨.normal,a₂,w₂,hq₂,Steps.trans h0 (Steps.trans harr₂ (.one step_inScope))⟩
  |exit id=>exact⟨.exit id,a₂,w₂,hq₂,fun k' hk=>Steps.trans h0 (harr₂ k' (by simp[exitTo,hk]))⟩
  |goto l'=>exact hq₂.elim
  |ret=>exact⟨_,a₂,w₂,hq₂,.of_steps h0 harr₂⟩
  |panic ch=>exact⟨_,a₂,w₂,hq₂,.of_steps h0 harr₂⟩
  |outgrown=>exact⟨_,a₂,w₂,hq₂,.of_steps h0 harr₂⟩
 |ret=>exact⟨_,a₁,w₁,hq,.of_steps (.one step_scope) harr⟩
 |panic ch=>exact⟨_,a₁,w₁,hq,.of_steps (.one step_scope) harr⟩
 |outgrown=>exact⟨_,a₁,w₁,hq,.of_steps (.one step_scope) harr⟩
structure InfoAt (w:World):Prop where
 mant:w.cell? ⟨7,0,none⟩=some (.int .u64 52)
 ebits:w.cell? ⟨7,1,none⟩=some (.int .u64 11)
 bias:w.cell? ⟨7,2,none⟩=some (.int .i64 (-1023))
 lt:7<w.heap.size
theorem InfoAt.below {w w':World} {B:Nat} (h:InfoAt w) (hb:Below B w w') (h0:7<B):InfoAt w':=
 ⟨(hb.cell (p:=⟨_,0,none⟩) h0).trans h.mant,(hb.cell (p:=⟨_,1,none⟩) h0).trans h.ebits,(hb.cell (p:=⟨_,2,none⟩) h0).trans h.bias,Nat.lt_of_lt_of_le h.lt hb.size⟩
theorem shR_ok : ∀ {k : Nat} {S : Dec}, S.Ok → 1 ≤ k → k ≤ 100000000 → (Dec.shR k S).Ok ∧ S.dp - 20 * (k : Int) ≤ (Dec.shR k S).dp ∧ (Dec.shR k S).dp ≤ S.dp := by
  intro k
  induction k using Nat.strongRecOn with
  | _ k ih =>
    intro S h h1 h2
    by_cases hb:60<k
    · rw [Dec.shR_more hb]
      have ho:=Dec.rs_ok h (k:=60) (by omega) (by omega)
      have hd:=rs_dp h (k:=60) (by omega) (by omega)
      have:=ih (k-60) (by omega) ho.1 (by omega) (by omega)
      exact⟨this.1,by omega,by omega⟩
    · rw [Dec.shR_last (by omega)]
      have ho:=Dec.rs_ok h (k:=k) (by omega) (by omega)
      have hd:=rs_dp h (k:=k) (by omega) (by omega)
      exact⟨ho.1,by omega,by omega⟩
structure PowAt (w:World) (PW:Nat):Prop where
 tab: ∃o,w.cell? ⟨9,0,none⟩=some (.slice (some ⟨PW,o,none⟩) 9 9)∧ ∀i,i<9→w.cell? ⟨PW,o+i,none⟩=some (.int .i64 (powT i:Int))
 lt0:9<w.heap.size
 lt:PW<w.heap.size
theorem PowAt.below {w w':World} {B PW:Nat} (h:PowAt w PW) (hb:Below B w w') (h0:9<B) (h1:PW<B):PowAt w' PW:=by
 obtain⟨o,t1,t2⟩:=h.tab;exact⟨⟨o,(hb.cell (p:=⟨_,0,none⟩) h0).trans t1,fun i hi=>(hb.cell (p:=⟨PW,_,none⟩) h1).trans (t2 i hi)⟩,Nat.lt_of_lt_of_le h.lt0 hb.size,Nat.lt_of_lt_of_le h.lt hb.size⟩
theorem riV_lt (S:Dec):riV S<18446744073709551616:=by
 unfold riV riPre;split
 ·omega
 ·split
  ·exact Nat.mod_lt _ (by omega)
  ·exact Nat.mod_lt _ (by omega)
theorem dec_floatBits_far (w:World) (B g:Nat) (S:Dec) (h:DecSt w g S false) (hi:InfoAt w) (h0:S.nd=0∨310<S.dp∨S.dp< -330):
  Calls Tryz.prog 307 #[.pointer (some ⟨g,0,none⟩),.pointer (some ⟨7,0,none⟩)] w fun e w'=>e= .returned (.tuple #[.int .u64 (fbV S).1,.bool (fbV S).2])∧Below B w w':=by
 obtain⟨T,hT⟩: ∃T,T=fbV S:=⟨_,rfl⟩;rw[←hT];have dn:=h.neg;have i0:=hi.mant;have i1:=hi.ebits;have i2:=hi.bias;have d0:=h.nd;have d1:=h.dp;by_cases hz:S.nd=0
 ·have HX:=Lib.hid (show T=(fbBits 0 0,false)by rw[hT,fbV,if_pos hz]);rw[hz]at d0;clear hT h hi h0 hz;go_enter Tryz.func307,Tryz.ntmps307;go_wp2_with fail;apply wp_scope_fwd;generalize hQ2:Exit.fwd Tryz.prog _ _=Q2;have HQ:=Lib.hid hQ2;clear hQ2;go_wp2_with fail;go_step3
  try simp only[Exit.then,Exit.inBlock]
  rw[←HQ.out];refine⟨_,rfl,?_⟩;clear HQ;go_wp2_with fail;go_quiet (fail);go_wp2_with fail;rw[Exit.noGoto_ret];go_ret2;rw[HX.out];exact⟨rfl,Go.below_drewN (Below.refl B w) nq⟩
 ·have p0:((S.nd:Int)==0)=false:=beq_eq_false_iff_ne.2 (by omega);by_cases hbig:310<S.dp
  ·have p1:((310:Int)<S.dp)=True:=eq_true hbig;have HX:=Lib.hid (show T=fbOvf by rw[hT,fbV,if_neg hz,if_pos hbig]);clear hT h hi h0 hz;go_enter Tryz.func307,Tryz.ntmps307;go_wp2_with fail;apply wp_scope_fwd;generalize hQ2:Exit.fwd Tryz.prog _ _=Q2;have HQ:=Lib.hid hQ2;clear hQ2;go_wp2_with fail;go_step3
   try simp only[Exit.then,Exit.inBlock]
   rw[←HQ.out];refine⟨_,rfl,?_⟩;clear HQ;go_wp2_with fail;go_quiet (fail);go_wp2_with fail;go_step3;go_wp2_with fail;have n1: ∃m,m=nq:=⟨_,rfl⟩;obtain⟨m1,hm1⟩:=n1;rw[←hm1];clear hm1;go_quiet (fail);go_wp2_with fail;rw[Exit.noGoto_ret];go_ret2;rw[HX.out];exact⟨rfl,by rw[←World.drewN_drewN];exact Go.below_drewN (Go.below_drewN (Below.refl B w) m1) nq⟩
  ·have p1:((310:Int)<S.dp)=False:=eq_false hbig;have p2:(S.dp< -330)=True:=eq_true (by omega);have HX:=Lib.hid (show T=(fbBits 0 0,false)by rw[hT,fbV,if_neg hz,if_neg hbig,if_pos (by omega)]);clear hT h hi h0 hz;go_enter Tryz.func307,Tryz.ntmps307;go_wp2_with fail;apply wp_scope_fwd;generalize hQ2:Exit.fwd Tryz.prog _ _=Q2;have HQ:=Lib.hid hQ2;clear hQ2;go_wp2_with fail;go_step3
   try simp only[Exit.then,Exit.inBlock]
   rw[←HQ.out];refine⟨_,rfl,?_⟩;clear HQ;go_wp2_with fail;go_quiet (fail);go_wp2_with fail;rw[Exit.noGoto_ret];go_ret2;rw[HX.out];exact⟨rfl,Go.below_drewN (Below.refl B w) nq⟩
theorem dec_floatBits_near (w:World) (B g C PW:Nat) (S:Dec) (h:DecSt w g S false) (hok:S.Ok) (hi:InfoAt w) (hp:PowAt w PW) (hc:CheatAt w C) (hdp: -330≤S.dp∧S.dp≤310) (hB:B≤g) (hC:C<B) (hPW:PW<B) (hG1:12<B) (hG2:9<B) (hG3:7<B):
  Calls Tryz.prog 307 #[.pointer (some ⟨g,0,none⟩),.pointer (some ⟨7,0,none⟩)] w fun e w'=>e= .returned (.tuple #[.int .u64 (fbV S).1,.bool (fbV S).2])∧Below B w w':=by
 obtain⟨T,hT⟩: ∃T,T=fbV S:=⟨_,rfl⟩;rw[←hT];have hpos:=hok.pos;have p0:((S.nd:Int)==0)=false:=beq_eq_false_iff_ne.2 (by omega);have p1:((310:Int)<S.dp)=False:=eq_false (by omega);have p2:(S.dp< -330)=False:=eq_false (by omega);obtain⟨T1,hT1⟩: ∃T1,T1=fb1 1000 S 0:=⟨_,rfl⟩;obtain⟨T2,hT2⟩: ∃T2,T2=fb2 34000 T1.1 T1.2:=⟨_,rfl⟩;have hTT:T=fbFin T2.1 (T2.2-1):=by rw[hT,fbV,if_neg (by omega),if_neg (by omega),if_neg (by omega),hT2,hT1]
 have d0:=h.nd;have d1:=h.dp;have H:=Lib.hid h;have HOK:=Lib.hid hok;have HT1:=Lib.hid hT1;have HT2:=Lib.hid hT2;have HT:=Lib.hid hTT;have HI:=Lib.hid hi;have HP:=Lib.hid hp;have HC:=Lib.hid hc;have HDP:=Lib.hid hdp;clear h hok hT1 hT2 hTT hi hp hc hT hpos;go_enter Tryz.func307,Tryz.ntmps307;go_wp2_with fail;apply wp_scope_fwd;generalize hQ2:Exit.fwd Tryz.prog _ _=Q2;have HQ:=Lib.hid hQ2;clear hQ2 hdp;go_wp2_with fail;go_loopg [6,8] 1000 (fun gg t6 _ wr=> ∃(S2:Dec) (e:Int),Hid (fb1 gg S2 e=T1∧mu1 S2<gg∧S2.Ok∧DecSt wr g S2 false∧Below B w wr∧ -330≤S2.dp∧S2.dp≤310∧0≤e∧e+27*(gg:Int)≤27000)∧t6= .int .i64 e)
 case atStart=>
  refine⟨S,0,Lib.hid ⟨HT1.out.symm,?_,HOK.out,H.out,Below.refl _ _,HDP.out.1,HDP.out.2,by omega,by omega⟩,rfl⟩;unfold mu1;have:=HDP.out.2;split<;>omega
 case round=>
  obtain⟨S2,e,hI,rfl⟩:=hrel;have hdec:=hI.out.2.2.2.1;have hbl:=hI.out.2.2.2.2.1;have d1:=hdec.dp;by_cases hpos:0<S2.dp
  ·have q1:((0:Int)<S2.dp)=True:=eq_true hpos;obtain⟨d,hd⟩: ∃d:Nat,S2.dp=(d:Int):=⟨S2.dp.toNat,by omega⟩;have hd1:1≤d∧d≤310:=by have:=hI.out.2.2.2.2.2.2.1;omega
   rw[hd]at d1 q1;have hp2:=HP.out.below hbl hG2 hPW;obtain⟨oP,ph,hpr⟩:=hp2.tab;have HPR:=Lib.hid hpr;clear hpr;obtain⟨n,hn⟩: ∃n,n=powT d:=⟨_,rfl⟩;have hnb:=powT_bounds d;have hnd:powT S2.dp.toNat=n:=by rw[hn,hd,Int.toNat_natCast]
   have hms:=mu1_step hI.out.2.2.1 hpos;have hrs:=Dec.rs_ok hI.out.2.2.1 (k:=n) (by omega) (by omega);have hrd:=rs_dp hI.out.2.2.1 (k:=n) (by omega) (by omega);obtain⟨gg,hgg⟩: ∃gg,gk=gg+1:=⟨gk-1,by have:=hI.out.2.1;omega⟩;have hstep:fb1 gg (S2.rs n) (e+n)=T1:=by
    rw[←hI.out.1,hgg,fb1_step hpos,hnd]
   rw[hnd]at hms;have hnb2:1≤n∧n≤27:=by omega
   have he:0≤e∧e≤27000:=by have:=hI.out.2.2.2.2.2.2.2;omega
   have HX:=Lib.hid (And.intro hms (And.intro hrs.1 (And.intro hrd (And.intro hstep (And.intro hgg hd)))));have HDE:=Lib.hid hdec;have HBL:=Lib.hid hbl;clear hms hrs hrd hstep hgg hdec hbl hnd hpos hnb;by_cases h9:9≤d
   ·have q2:((9:Int)≤(d:Int))=True:=eq_true (by omega);have hn27:n=27:=by rw[hn,powT,if_pos h9]
    have HN:=Lib.hid hn;clear hn hd;subst hn27;go_wp2_with fail;go_quiet (fail);have hd2:DecSt (wr.drewN nq) g S2 false:=HDE.out.drew nq;have hb2:=Go.below_drewN HBL.out nq;clear d1 ph hp2;generalize wr.drewN nq=w2 at hd2 hb2 ⊢
    have HD2:=Lib.hid hd2;have HB2:=Lib.hid hb2;clear hd2 hb2;go_wp2_with fail;refine(dec_ShiftR _ B g S2 false 27 (-27) rfl HD2.out hI.out.2.2.1 (by omega) (by omega) (by have:=hI.out.2.2.2.2.2;omega) hB).mono ?_;rintro e9 w3 ⟨rfl,hs3,hb3⟩;rw[Dec.shR_last (by omega)]at hs3;have HX3:=Lib.hid (And.intro hs3 (HB2.out.trans hb3));clear hs3 hb3;go_wp2_with fail;go_roundg gg
    case measure=>have:=HX.out.2.2.2.2.1;omega
    case rel=>
     have h1:=HX.out.1;have h2:=HX.out.2.2.1;have h3:=HX.out.2.2.2.2.1;have h4:=hI.out.2.1;have h5:=hI.out.2.2.2.2.2;have h6:=HX.out.2.2.2.2.2;refine⟨S2.rs 27,e+(27:Nat),Lib.hid ⟨HX.out.2.2.2.1,by omega,HX.out.2.1,HX3.out.1,HX3.out.2,by omega,by omega,by omega,by omega⟩,?_⟩
     first|rfl|exact vint (by simp only[wrap64];omega)
   ·have q2:((9:Int)≤(d:Int))=False:=eq_false (by omega);have q3:((d:Int)<9)=True:=eq_true (by omega);have pr:=HPR.out d (by omega);rw[←hn]at pr;have HN:=Lib.hid hn;clear hn hd;go_wp2_with fail;go_quiet (fail);obtain⟨m1,hm1⟩: ∃m,m=nq:=⟨_,rfl⟩;rw[←hm1];clear hm1;go_wp2_with fail;go_quiet (fail);have hd2:DecSt ((wr.drewN m1).drewN nq) g S2 false:=(HDE.out.drew m1).drew nq;have hb2:=Go.below_drewN (Go.below_drewN HBL.out m1) nq;rw[World.drewN_drewN]at hd2 hb2 ⊢
    clear d1 ph pr hp2;generalize wr.drewN (m1+nq)=w2 at hd2 hb2 ⊢
    have HD2:=Lib.hid hd2;have HB2:=Lib.hid hb2;clear hd2 hb2;go_wp2_with fail;refine(dec_ShiftR _ B g S2 false n (-(n:Int)) rfl HD2.out hI.out.2.2.1 (by omega) (by omega) (by have:=hI.out.2.2.2.2.2;omega) hB).mono ?_;rintro e9 w3 ⟨rfl,hs3,hb3⟩;rw[Dec.shR_last (by omega)]at hs3;have HX3:=Lib.hid (And.intro hs3 (HB2.out.trans hb3));clear hs3 hb3;go_wp2_with fail;go_roundg gg
    case measure=>have:=HX.out.2.2.2.2.1;omega
    case rel=>
     have h1:=HX.out.1;have h2:=HX.out.2.2.1;have h3:=HX.out.2.2.2.2.1;have h4:=hI.out.2.1;have h5:=hI.out.2.2.2.2.2;have h6:=HX.out.2.2.2.2.2;refine⟨S2.rs n,e+(n:Nat),Lib.hid ⟨HX.out.2.2.2.1,by omega,HX.out.2.1,HX3.out.1,HX3.out.2,by omega,by omega,by omega,by omega⟩,?_⟩
     first|rfl|exact vint (by simp only[wrap64];omega)
  ·have q1:((0:Int)<S2.dp)=False:=eq_false hpos;have hT1e:T1=(S2,e):=by rw[←hI.out.1];exact fb1_end hpos _ _
   have hT2e:T2=fb2 34000 S2 e:=by rw[HT2.out,hT1e]
   have HE:=Lib.hid (And.intro hT2e (And.intro hI.out.2.2.1 (And.intro hdec (And.intro hbl hI.out.2.2.2.2.2))));have hpn: ¬0<S2.dp:=hpos;clear hT1e hT2e hdec hbl hI;go_wp2_with fail;have hdp0:S2.dp≤0:=by omega
   have hm2:mu2 S2<34000:=by
    have:=HE.out.2.2.2.2.1;unfold mu2;split<;>(try split)<;>omega
   go_loopg [6,9] 34000 (fun gg t6 _ wr=> ∃(S2:Dec) (e:Int),Hid (fb2 gg S2 e=T2∧mu2 S2<gg∧S2.Ok∧DecSt wr g S2 false∧Below B w wr∧ -330≤S2.dp∧S2.dp≤20∧e≤27000∧27*(gg:Int)≤e+918000)∧t6= .int .i64 e)
   case atStart=>exact⟨S2,e,Lib.hid ⟨HE.out.1.symm,hm2,HE.out.2.1,HE.out.2.2.1,HE.out.2.2.2.1,HE.out.2.2.2.2.1,by omega,by have:=HE.out.2.2.2.2;omega,by have:=HE.out.2.2.2.2;omega⟩,rfl⟩
   case round=>
    clear HE hm2 hdp0 hpn q1 d1;obtain⟨S2,e,hI,rfl⟩:=hrel;have hdec:=hI.out.2.2.2.1;have hbl:=hI.out.2.2.2.2.1;have d1:=hdec.dp;have dd:=hdec.dig 0 (by omega);by_cases hl2:less2 S2
    ·have hdpn:S2.dp≤0:=by rcases hl2 with h|⟨h,_⟩<;>omega
     obtain⟨d,hd⟩: ∃d:Nat,-S2.dp=(d:Int):=⟨(-S2.dp).toNat,by omega⟩;have hd1:d≤330:=by have:=hI.out.2.2.2.2.2.1;omega
     have hnegd:wrap64 (-S2.dp)=(d:Int):=by simp only[wrap64];omega
     have hp2:=HP.out.below hbl hG2 hPW;obtain⟨oP,ph,hpr⟩:=hp2.tab;have HPR:=Lib.hid hpr;clear hpr;obtain⟨n,hn⟩: ∃n,n=powT d:=⟨_,rfl⟩;have hnb:=powT_bounds d;have hnd:powT (-S2.dp).toNat=n:=by rw[hn,hd,Int.toNat_natCast]
     have hms:=mu2_step hI.out.2.2.1 hl2;have hrs:=Dec.ls_ok hI.out.2.2.1 (k:=n) (by omega) (by omega);have hrd:=ls_dp hI.out.2.2.1 (k:=n) (by omega) (by omega);obtain⟨gg,hgg⟩: ∃gg,gk=gg+1:=⟨gk-1,by have:=hI.out.2.1;omega⟩;have hstep:fb2 gg (S2.ls n) (e-n)=T2:=by
      rw[←hI.out.1,hgg,fb2_step hl2,hnd]
     rw[hnd]at hms;have hnb2:1≤n∧n≤27:=by omega
     have he: -918000≤e∧e≤27000:=by have:=hI.out.2.2.2.2.2.2.2;omega
     have HX:=Lib.hid (And.intro hms (And.intro hrs.1 (And.intro hrd (And.intro hstep (And.intro hgg hd)))));have HDE:=Lib.hid hdec;have HBL:=Lib.hid hbl;have HL2:=Lib.hid hl2;clear hms hrs hrd hstep hgg hdec hbl hnd hnb;go_upto_region 18 with fail
     go_cut [80]from 61 to 80 (fun t80 wx=>t80= .bool true∧wx=wr)
     case first=>
      rcases Int.lt_or_le S2.dp 0 with hlt|hge
      ·have q1:(S2.dp<0)=True:=eq_true hlt;go_wp2_with fail;go_meet;exact⟨rfl,rfl⟩
      ·have hz:S2.dp=0:=by omega
       have q1:(S2.dp<0)=False:=eq_false (by omega);have q2:(S2.dp==0)=true:=by rw[hz];rfl
       have q3:((S2.D 0:Int)<53)=True:=eq_true (by rcases HL2.out with h|⟨_,h⟩<;>omega);clear hz;go_wp2_with fail;go_meet;exact⟨rfl,rfl⟩
     case rest=>
      obtain⟨rfl,rfl⟩:=hcut;by_cases h9:9≤d
      ·have q2:((9:Int)≤(d:Int))=True:=eq_true (by omega);have hn27:n=27:=by rw[hn,powT,if_pos h9]
       have HN:=Lib.hid hn;clear hn hd;subst hn27;go_wp2_with fail;go_quiet (fail);have hd2:DecSt (wc.drewN nq) g S2 false:=HDE.out.drew nq;have hb2:=Go.below_drewN HBL.out nq;clear d1 ph hp2 dd;generalize wc.drewN nq=w2 at hd2 hb2 ⊢
       have HD2:=Lib.hid hd2;have HB2:=Lib.hid hb2;clear hd2 hb2;go_wp2_with fail;refine(dec_ShiftL _ B g C S2 false 27 HD2.out (HC.out.below HB2.out hG1 hC) hI.out.2.2.1 (by omega) (by omega) (by have:=hI.out.2.2.2.2.2;omega) hB hC hG1).mono ?_;rintro e9 w3 ⟨rfl,hs3,hb3⟩;rw[Dec.shL_last (by omega)]at hs3;have HX3:=Lib.hid (And.intro hs3 (HB2.out.trans hb3));clear hs3 hb3;go_wp2_with fail;go_roundg gg
       case measure=>have:=HX.out.2.2.2.2.1;omega
       case rel=>
        have h1:=HX.out.1;have h2:=HX.out.2.2.1;have h3:=HX.out.2.2.2.2.1;have h4:=hI.out.2.1;have h5:=hI.out.2.2.2.2.2;have h6:=HX.out.2.2.2.2.2;refine⟨S2.ls 27,e-(27:Nat),Lib.hid ⟨HX.out.2.2.2.1,by omega,HX.out.2.1,HX3.out.1,HX3.out.2,by omega,by omega,by omega,by omega⟩,?_⟩
        first|rfl|exact vint (by simp only[wrap64];omega)
      ·have q2:((9:Int)≤(d:Int))=False:=eq_false (by omega);have q3:((d:Int)<9)=True:=eq_true (by omega);have pr:=HPR.out d (by omega);rw[←hn]at pr;have HN:=Lib.hid hn;clear hn hd;go_wp2_with fail;go_quiet (fail);obtain⟨m1,hm1⟩: ∃m,m=nq:=⟨_,rfl⟩;rw[←hm1];clear hm1;go_wp2_with fail;go_quiet (fail);have hd2:DecSt ((wc.drewN m1).drewN nq) g S2 false:=(HDE.out.drew m1).drew nq;have hb2:=Go.below_drewN (Go.below_drewN HBL.out m1) nq;rw[World.drewN_drewN]at hd2 hb2 ⊢
       clear d1 ph pr hp2 dd;generalize wc.drewN (m1+nq)=w2 at hd2 hb2 ⊢
       have HD2:=Lib.hid hd2;have HB2:=Lib.hid hb2;clear hd2 hb2;go_wp2_with fail;refine(dec_ShiftL _ B g C S2 false n HD2.out (HC.out.below HB2.out hG1 hC) hI.out.2.2.1 (by omega) (by omega) (by have:=hI.out.2.2.2.2.2;omega) hB hC hG1).mono ?_;rintro e9 w3 ⟨rfl,hs3,hb3⟩;rw[Dec.shL_last (by omega)]at hs3;have HX3:=Lib.hid (And.intro hs3 (HB2.out.trans hb3));clear hs3 hb3;go_wp2_with fail;go_roundg gg
       case measure=>have:=HX.out.2.2.2.2.1;omega
       case rel=>
        have h1:=HX.out.1;have h2:=HX.out.2.2.1;have h3:=HX.out.2.2.2.2.1;have h4:=hI.out.2.1;have h5:=hI.out.2.2.2.2.2;have h6:=HX.out.2.2.2.2.2;refine⟨S2.ls n,e-(n:Nat),Lib.hid ⟨HX.out.2.2.2.1,by omega,HX.out.2.1,HX3.out.1,HX3.out.2,by omega,by omega,by omega,by omega⟩,?_⟩
        first|rfl|exact vint (by simp only[wrap64];omega)
    ·have hT2e:T2=(S2,e):=by rw[←hI.out.1];exact fb2_end hl2 _ _
     have hTe:T=fbFin S2 (e-1):=by rw[HT.out,hT2e]
     have hdpb:=hI.out.2.2.2.2.2;have HE:=Lib.hid (And.intro hTe (And.intro hI.out.2.2.1 (And.intro hdec hbl)));have q1:(S2.dp<0)=False:=eq_false (fun h=>hl2 (.inl h));go_upto_region 18 with fail
     go_cut [80]from 61 to 80 (fun t80 wx=>t80= .bool false∧wx=wr)
     case first=>
      by_cases hz:S2.dp=0
      ·have q2:(S2.dp==0)=true:=by rw[hz];rfl
       have q3:((S2.D 0:Int)<53)=False:=eq_false (fun h=>hl2 (.inr ⟨hz,by omega⟩));clear hz hl2;go_wp2_with fail;go_meet;exact⟨rfl,rfl⟩
      ·have q2:(S2.dp==0)=false:=beq_eq_false_iff_ne.2 hz;clear hz hl2;go_wp2_with fail;go_meet;exact⟨rfl,rfl⟩
     case rest=>
      obtain⟨rfl,rfl⟩:=hcut;clear hl2 q1 dd hI hT2e hTe hdec hbl;have he: -918000≤e∧e≤27000:=by omega
      have hi2:=HI.out.below HE.out.2.2.2 hG3;have i0:=hi2.mant;have i1:=hi2.ebits;have i2:=hi2.bias;clear hi2;obtain⟨e1,he1⟩: ∃e1,e1=e-1:=⟨_,rfl⟩;have hw1:wrap64 (e-1)=e1:=by simp only[wrap64];omega
      have hTe:T=fbFin S2 e1:=by rw[HE.out.1,he1]
      have hb1: -918001≤e1∧e1≤27000:=by omega
      have HTE:=Lib.hid hTe;have HE1:=Lib.hid he1;go_upto_if 111 with fail
      go_cut [6,10]from 103 to 125 (fun t6 _ wx=> ∃(S3:Dec) (e2:Int),t6= .int .i64 e2∧Hid (T=fbFin2 S3 e2∧S3.Ok∧DecSt wx g S3 false∧Below B w wx∧ -1022≤e2∧e2≤27000∧ -30000000≤S3.dp∧S3.dp≤30000000))
      case first=>
       by_cases hlt:e1< -1022
       ·have q1:(e-1< -1022)=True:=eq_true (by omega);obtain⟨n,hn⟩: ∃n:Nat,-1022-e1=(n:Int):=⟨(-1022-e1).toNat,by omega⟩;go_wp2_with fail;refine(dec_ShiftR _ B g S2 false n _ (by omega) HE.out.2.2.1 HE.out.2.1 (by omega) (by omega) (by omega) hB).mono ?_;rintro e9 w3 ⟨rfl,hs3,hb3⟩;have hsr:=shR_ok HE.out.2.1 (k:=n) (by omega) (by omega);have HX3:=Lib.hid (And.intro hs3 (And.intro (HE.out.2.2.2.trans hb3) hsr));clear hs3 hb3 hsr;go_wp2_with fail;go_meet;have hr:=HX3.out.2.2;refine⟨Dec.shR n S2,-1022,?_,Lib.hid ⟨by rw[HTE.out,fbFin,if_pos hlt,hn,Int.toNat_natCast],hr.1,HX3.out.1,HX3.out.2.1,by omega,by omega,by omega,by omega⟩⟩
        first|rfl|exact vint (by omega)
       ·have q1:(e-1< -1022)=False:=eq_false (by omega);go_wp2_with fail;go_meet;refine⟨S2,e1,?_,Lib.hid ⟨by rw[HTE.out,fbFin,if_neg (by omega)],HE.out.2.1,HE.out.2.2.1,HE.out.2.2.2,by omega,by omega,by omega,by omega⟩⟩
        first|rfl|exact vint (by omega)
      case rest=>
       obtain⟨S3,e2,rfl,hJ⟩:=hcut;clear HE i0 i1 i2 hb1 HTE HE1 hw1 he1 hTe;have hi3:=HI.out.below hJ.out.2.2.2.1 hG3;have i0:=hi3.mant;have i1:=hi3.ebits;have i2:=hi3.bias;have dn:=hJ.out.2.2.1.neg;have he2: -1022≤e2∧e2≤27000:=by have:=hJ.out.2.2.2.2;omega
       clear hi3;by_cases hov:2047≤e2+1023
       ·have q1:((2047:Int)≤e2+1023)=True:=eq_true hov;have HX:=Lib.hid (show T=fbOvf by rw[hJ.out.1,fbFin2,if_pos hov]);clear hov;go_wp2_with fail;go_quiet (fail);have hb4:=Go.below_drewN hJ.out.2.2.2.1 nq;have hd4:DecSt (wc.drewN nq) g S3 false:=hJ.out.2.2.1.drew nq;generalize wc.drewN nq=w4 at hd4 hb4 ⊢
        clear i0 i1 i2 dn;have hi4:=HI.out.below hb4 hG3;have i0:=hi4.mant;have i1:=hi4.ebits;have i2:=hi4.bias;have dn:=hd4.neg;have HB4:=Lib.hid hb4;clear hi4 hd4 hb4;go_wp2_with fail;go_step3
        try simp only[Exit.then,Exit.inBlock]
        rw[←HQ.out];refine⟨_,rfl,?_⟩;go_wp2_with fail;go_quiet (fail);go_wp2_with fail;go_step3;go_wp2_with fail;obtain⟨m9,hm9⟩: ∃m,m=nq:=⟨_,rfl⟩;rw[←hm9];clear hm9;go_quiet (fail);go_wp2_with fail;rw[Exit.noGoto_ret];go_ret2;rw[HX.out];exact⟨rfl,by first|exact Go.below_drewN (Go.below_drewN HB4.out m9) nq|(rw[←World.drewN_drewN];exact Go.below_drewN (Go.below_drewN HB4.out m9) nq)|(simp only[←World.drewN_drewN];exact Go.below_drewN (Go.below_drewN HB4.out m9) nq)⟩
       ·have q1:((2047:Int)≤e2+1023)=False:=eq_false hov;have hJT:T=fbFin3 (riV (S3.ls 53)) e2:=by rw[hJ.out.1,fbFin2,if_neg hov]
        have HJT:=Lib.hid hJT;clear hov hJT;go_wp2_with fail;go_quiet (fail);have hd4:DecSt (wc.drewN nq) g S3 false:=hJ.out.2.2.1.drew nq;have hb4:=Go.below_drewN hJ.out.2.2.2.1 nq;generalize wc.drewN nq=w4 at hd4 hb4 ⊢
        clear i0 i1 i2 dn;have hi4:=HI.out.below hb4 hG3;have i0:=hi4.mant;have i1:=hi4.ebits;have i2:=hi4.bias;have HD4:=Lib.hid hd4;have HB4:=Lib.hid hb4;clear hi4 hd4 hb4;go_wp2_with fail;refine(dec_ShiftL _ B g C S3 false 53 HD4.out (HC.out.below HB4.out hG1 hC) hJ.out.2.1 (by omega) (by omega) (by have:=hJ.out.2.2.2.2;omega) hB hC hG1).mono ?_;rintro e9 w5 ⟨rfl,hs5,hb5⟩;rw[Dec.shL_last (by omega)]at hs5;have hok5:=(Dec.ls_ok hJ.out.2.1 (k:=53) (by omega) (by omega)).1;have hi5:=HI.out.below (HB4.out.trans hb5) hG3;have HX5:=Lib.hid (And.intro hs5 (And.intro (HB4.out.trans hb5) hok5));clear i0 i1 i2;have i0:=hi5.mant;have i1:=hi5.ebits;have i2:=hi5.bias;have dn:=hs5.neg;clear hs5 hb5 hok5 hi5;go_wp2_with fail;refine(dec_ri _ g _ false HX5.out.1 HX5.out.2.2).mono ?_;rintro e9 w6 ⟨rfl,rfl⟩;obtain⟨m,hm⟩: ∃m,m=riV (S3.ls 53):=⟨_,rfl⟩;rw[←hm];have hmT:T=fbFin3 m e2:=by rw[HJT.out,hm]
        have HMT:=Lib.hid hmT;have HMV:=Lib.hid hm;clear hm hmT;by_cases hm53:m=9007199254740992
        ·have q2:((m:Int)==9007199254740992)=true:=by rw[hm53];rfl
         subst hm53;by_cases hov:2047≤e2+1+1023
         ·have q3:((2047:Int)≤e2+1+1023)=True:=eq_true hov;have HX:=Lib.hid (show T=fbOvf by rw[HMT.out,fbFin3,if_pos rfl,if_pos hov]);clear hov;go_wp2_with fail;go_quiet (fail);have hb7:=Go.below_drewN HX5.out.2.1 nq;have hd7:DecSt (w6.drewN nq) g (S3.ls 53) false:=HX5.out.1.drew nq;generalize w6.drewN nq=w7 at hd7 hb7 ⊢
          clear i0 i1 i2 dn;have hi4:=HI.out.below hb7 hG3;have i0:=hi4.mant;have i1:=hi4.ebits;have i2:=hi4.bias;have dn:=hd7.neg;have HB7:=Lib.hid hb7;clear hi4 hd7 hb7;go_wp2_with fail;go_step3
          try simp only[Exit.then,Exit.inBlock]
          rw[←HQ.out];refine⟨_,rfl,?_⟩;go_wp2_with fail;go_quiet (fail);go_wp2_with fail;go_step3;go_wp2_with fail;obtain⟨m9,hm9⟩: ∃m,m=nq:=⟨_,rfl⟩;rw[←hm9];clear hm9;go_quiet (fail);go_wp2_with fail;rw[Exit.noGoto_ret];go_ret2;rw[HX.out];exact⟨rfl,by first|exact Go.below_drewN (Go.below_drewN HB7.out m9) nq|(rw[←World.drewN_drewN];exact Go.below_drewN (Go.below_drewN HB7.out m9) nq)|(simp only[←World.drewN_drewN];exact Go.below_drewN (Go.below_drewN HB7.out m9) nq)⟩
         ·have q3:((2047:Int)≤e2+1+1023)=False:=eq_false hov;have hmT:T=(fbBits 4503599627370496 (e2+1+1023),false):=by
           rw[HMT.out,fbFin3,if_pos rfl,if_neg hov,fbFin4,if_neg (by decide)];rfl
          have HX:=Lib.hid hmT;clear hov hmT;go_wp2_with fail;go_quiet (fail);have hb7:=Go.below_drewN HX5.out.2.1 nq;have hd7:DecSt (w6.drewN nq) g (S3.ls 53) false:=HX5.out.1.drew nq;generalize w6.drewN nq=w7 at hd7 hb7 ⊢
          clear i0 i1 i2 dn;have hi4:=HI.out.below hb7 hG3;have i0:=hi4.mant;have i1:=hi4.ebits;have i2:=hi4.bias;have dn:=hd7.neg;have HB7:=Lib.hid hb7;clear hi4 hd7 hb7;go_wp2_with fail;go_step3
          try simp only[Exit.then,Exit.inBlock]
          rw[←HQ.out];refine⟨_,rfl,?_⟩;go_wp2_with fail;go_quiet (fail);go_wp2_with fail;rw[Exit.noGoto_ret];go_ret2;rw[HX.out];exact⟨rfl,Go.below_drewN HB7.out nq⟩
        ·have q2:((m:Int)==9007199254740992)=false:=beq_eq_false_iff_ne.2 (by omega);have hmT:T=fbFin4 m e2:=by rw[HMT.out,fbFin3,if_neg hm53]
         have HM4:=Lib.hid hmT;clear hmT hm53;have hm64:m<18446744073709551616:=by rw[HMV.out];exact riV_lt _
         have ha:bits .and .u64 (m:Int) 4503599627370496=((m&&&4503599627370496:Nat):Int):=u64_and_nat m 4503599627370496 hm64 (by omega);by_cases hz:(m&&&4503599627370496)=0
         ·have q3:(bits .and .u64 (m:Int) 4503599627370496==0)=true:=by rw[ha,hz];rfl
          have HX:=Lib.hid (show T=(fbBits m 0,false)by rw[HM4.out,fbFin4,if_pos hz]);clear hz ha hm64;go_wp2_with fail;go_step3
          try simp only[Exit.then,Exit.inBlock]
          rw[←HQ.out];refine⟨_,rfl,?_⟩;go_wp2_with fail;go_quiet (fail);go_wp2_with fail;rw[Exit.noGoto_ret];go_ret2;rw[HX.out];exact⟨rfl,Go.below_drewN HX5.out.2.1 nq⟩
         ·have q3:(bits .and .u64 (m:Int) 4503599627370496==0)=false:=by rw[ha,beq_eq_false_iff_ne];omega
          have HX:=Lib.hid (show T=(fbBits m (e2+1023),false)by rw[HM4.out,fbFin4,if_neg hz]);clear hz ha hm64;go_wp2_with fail;go_step3
          try simp only[Exit.then,Exit.inBlock]
          rw[←HQ.out];refine⟨_,rfl,?_⟩;go_wp2_with fail;go_quiet (fail);go_wp2_with fail;rw[Exit.noGoto_ret];go_ret2;rw[HX.out];exact⟨rfl,Go.below_drewN HX5.out.2.1 nq⟩
theorem dec_floatBits (w:World) (B g C PW:Nat) (S:Dec) (h:DecSt w g S false) (hok:S.nd=0∨S.Ok) (hi:InfoAt w) (hp:PowAt w PW) (hc:CheatAt w C) (hB:B≤g) (hC:C<B) (hPW:PW<B) (hG1:12<B) (hG2:9<B) (hG3:7<B):
  Calls Tryz.prog 307 #[.pointer (some ⟨g,0,none⟩),.pointer (some ⟨7,0,none⟩)] w fun e w'=>e= .returned (.tuple #[.int .u64 (fbV S).1,.bool (fbV S).2])∧Below B w w':=by
 rcases hok with h0|hok
 ·exact dec_floatBits_far w B g S h hi (.inl h0)
 ·by_cases hd:310<S.dp∨S.dp< -330
  ·exact dec_floatBits_far w B g S h hi (.inr hd)
  ·exact dec_floatBits_near w B g C PW S h hok hi hp hc (by omega) hB hC hPW hG1 hG2 hG3
end Go.Proofs.YtibcjfjacielbaaGreatDoor
