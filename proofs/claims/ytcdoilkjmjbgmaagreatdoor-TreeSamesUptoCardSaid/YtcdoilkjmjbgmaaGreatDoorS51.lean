import Derived.Test.YtcdoilkjmjbgmaaGreatDoorS41
/- Part of the proof of YtcdoilkjmjbgmaaGreatDoorCardY: TwD TkJ TrZh TgR TkR TmA TmB. -/
set_option maxRecDepth 100000
set_option maxHeartbeats 4000000
set_option linter.unusedVariables false
set_option linter.unusedSimpArgs false
namespace Go.Proofs.YtcdoilkjmjbgmaaGreatDoor
open Go.RowKit
open Go.Proofs.Tryz
variable {B b n size p i B0 s g o sz k d lo b1 b2:Nat} {W W' w W3 wr W9 W10 w':World} {e t:TypeId} {vv v3 v m mo l v' t5 t6 v1 v2:Value} {xs ys ks:List Value} {cs:Array Value} {L L1 L2:List (Nat×PR)} {ss:List ByteArray} {r:PR} {rs qs:List PR}
theorem O7 {α:Type} {xs ys:List α} (hl:xs.length=ys.length) (h: ∀i (hx:i<xs.length) (hy:i<ys.length),xs[i]=ys[i]):xs=ys:=Eh hl h
theorem VV (h1:jr b1 w v1 rs) (h2:jr b2 w v2 qs) (hn:rs.length≤4294967296) (hm:qs.length≤4294967296) (hl: ∀r∈rs,gp r) (uR: ∀r∈qs,gp r):
  Calls prog 46 #[v1,v2,.func (.func 47) #[] #[]] w (bD w (rs=qs)):=by
 obtain⟨a1,k1,rfl,jK⟩:=h1;obtain⟨a2,k2,rfl,ko⟩:=h2;have H1:=ae jK;have H2:=ae ko;have HL:=ae hl;have HM:=ae uR;clear jK ko hl uR;by_cases hle:rs.length=qs.length
 case neg=>
  have e1:((rs.length:Int)==(qs.length:Int))=false:=by simp;omega
  have e2:((rs.length:Int)=(qs.length:Int))=False:=bT (by omega);go_enter func46,ntmps46;go_wp2_with fail;go_ret;exact⟨false,rfl,⟨fun h=>(by cases h),fun e=>absurd (cn List.length e) hle⟩,aU _ _⟩
 have Xk:=ae hle;rw[←hle];clear hle hm;go_enter func46,ntmps46;go_wp2_with fail;go_loopw [17] (fun t17 W=> ∃j:Nat,t17= .int .i64 (j:Int)∧Hid (j≤rs.length)∧Hid (Below w.heap.size w W∧ ∀i (_:i<j) (hx:i<rs.length) (hy:i<qs.length),rs[i]=qs[i])) (fun t17 _=>rs.length-(intOf t17).toNat)
 case atStart=>exact⟨0,rfl,ae (aV _),ae ⟨aU _ _,fun i h=>absurd h (IE _)⟩⟩
 case round=>
  obtain⟨j,rfl,hj,LO⟩:=hrel;have hb:Hid (Below w.heap.size w wr):=ae LO.out.1;by_cases aA:j<rs.length
  ·have p1:((j:Int)<(rs.length:Int))=True:=aD (by omega);have jR:j<qs.length:=by rw[←Xk.out];exact aA
   obtain⟨g,o,rfl,_,hg,vm,vo,vi,vl,lg,bf⟩:=H1.out j aA;obtain⟨g',o',rfl,_,Sq,vm',vo',Sl,vl',LP,vp⟩:=H2.out j jR;have hlen:=HL.out rs[j] (jj aA);have Bk:=HM.out qs[j] (jj jR);generalize hR:rs[j]=r at lg bf hlen;generalize hQ:qs[j]=q at LP vp Bk;have XF:=ae (And.intro (show rs[j]=r from hR) (show qs[j]=q from hQ));clear hR hQ;have XD:Hid (∀W,Below w.heap.size w W→Calls prog 47 #[jM r vm vo vi vl,jM q vm' vo' Sl vl'] W (bD W (r=q))):=ae fun W h=>Ff (lg.below h) (LP.below h) hlen Bk
   obtain⟨⟨am,cm,rfl,_⟩,⟨ao,co,rfl,_⟩,⟨ai,ci,rfl,_⟩,⟨al,cl,rfl,_⟩⟩:=lg;obtain⟨⟨am',cm',rfl,_⟩,⟨ao',co',rfl,_⟩,⟨ai',ci',rfl,_⟩,⟨al',cl',rfl,_⟩⟩:=LP;obtain⟨c0,c1,c2,c3,c4,c5,c6,c7,c8,c9,PC,PD,c12,PE,PF,NY,NZ⟩:=sn (W:=wr) (o:=o+j*17) fun k hk=>(hb.out.cell (p:=⟨g,_,none⟩) hg).trans (bf k hk)
   have HD:=ae vp;have HG':=ae Sq;simp only[jM]at XD;clear bf vp hlen Bk hg Sq;go_wp2_with (refine ax rfl 46 (.tmp 8) (.tmp 21) rfl wr.heap.size #[.int .i64 r.kind,.int .i64 r.kids,.string r.op,.string r.text,.slice am r.ms.length cm,.string r.bU,.string r.step,.string r.off,.string r.tim,.bool r.bool,.bool r.given,.bool r.on,.slice ao r.mls.length co,.int .i64 r.card,.slice ai r.inc.length ci,.bool r.without,.slice al r.labels.length cl] rfl rfl (aM.new _ _ _) aL rfl rfl ?_);intro W3 mh Hq;have cu:Below wr.heap.size wr W3:=ef ((aU wr.heap.size wr).alloc (aS _) _) Hq (by simp) (aS _);have fZ:Hid (Below w.heap.size w W3):=ae (hb.out.trans (cu.mono hb.out.size));have sQ:=ae mh;obtain⟨d0,d1,d2,d3,d4,d5,d6,d7,d8,d9,d10,d11,d12,d13,d14,d15,d16⟩:=sn (W:=W3) (o:=o'+j*17) fun k hk=>(fZ.out.cell (p:=⟨g',_,none⟩) HG'.out).trans (HD.out k hk)
   clear mh Hq cu c0 c1 c2 c3 c4 c5 c6 c7 c8 c9 PC PD c12 PE PF NY NZ;go_wp2_with (refine ax rfl 46 (.tmp 9) (.tmp 25) rfl W3.heap.size #[.int .i64 q.kind,.int .i64 q.kids,.string q.op,.string q.text,.slice am' q.ms.length cm',.string q.bU,.string q.step,.string q.off,.string q.tim,.bool q.bool,.bool q.given,.bool q.on,.slice ao' q.mls.length co',.int .i64 q.card,.slice ai' q.inc.length ci',.bool q.without,.slice al' q.labels.length cl'] rfl rfl (aM.new _ _ _) aL rfl rfl ?_);intro W5 RW hg5;have lj:Below W3.heap.size W3 W5:=ef ((aU W3.heap.size W3).alloc (aS _) _) hg5 (by simp) (aS _);have mW:Hid (Below w.heap.size w W5):=ae (fZ.out.trans (lj.mono fZ.out.size));have HZ5:=ae RW;have akt:=ae (sQ.out.below lj sQ.out.lt);clear RW hg5 lj d0 d1 d2 d3 d4 d5 d6 d7 d8 d9 d10 d11 d12 d13 d14 d15 d16;go_wp2_with (first|(refine cG rfl 46 (.tmp 8) rfl wr.heap.size rfl akt.out underlying46 aL ?_)|(refine cG rfl 46 (.tmp 9) rfl W3.heap.size rfl HZ5.out underlying46 aL ?_));refine(XD.out _ mW.out).mono ?_;rintro e W6 ⟨bb,rfl,oc,NU⟩;have HB6:Hid (Below w.heap.size w W6):=ae (mW.out.trans (NU.mono mW.out.size));clear NU;cases bb with
   |false=>
    go_wp2_with fail;go_ret;refine⟨false,rfl,⟨fun h=>(by cases h),fun e=>?_⟩,HB6.out⟩;exact oc.2 (by rw[←XF.out.1,←XF.out.2];exact List.getElem_of_eq e _)
   |true=>
    have HN:Hid (Below w.heap.size w W6∧ ∀i (_:i<j+1) (hx:i<rs.length) (hy:i<qs.length),rs[i]=qs[i]):=ae ⟨HB6.out,fun i hi hx hy=>by
     by_cases e:i=j
     ·subst e;have:=oc.1 rfl;rw[←XF.out.1,←XF.out.2]at this;exact this
     ·exact LO.out.2 i (by omega) hx hy⟩
    clear oc;go_wp2_with fail;go_roundw
    case rel=>exact⟨j+1,by go_num,ae aA,HN⟩
    case measure=>simp[intOf];omega
  ·have p1:((j:Int)<(rs.length:Int))=False:=bT (by omega);have hje:j=rs.length:=by have:=hj.out;omega
   go_wp2_with fail;go_ret;exact⟨true,rfl,⟨fun _=>O7 Xk.out fun i hx hy=>LO.out.2 i (by omega) hx hy,fun _=>rfl⟩,hb.out⟩
theorem jD.Δ {e:Ending} (h:jD w L e w'): ∃ao n c,e= .returned (.slice ao n c)∧jr 0 w' (.slice ao n c) (L.map (·.2))∧Below w.heap.size w w':=by
 obtain⟨vv,xs,rfl,h1,h2,h3,h4,h5⟩:=h;obtain⟨ao,c,rfl,hf⟩:=wh WI.cs 17 (fun _=>rfl) xs h2;have hm:L.map (·.2)=xs.map (·.r):=by rw[←h1,List.map_map];rfl
 refine⟨ao,_,c,rfl,⟨ao,c,by rw[hm,ln],fun j hj=>?_⟩,h5⟩;have KR:j<xs.length:=by rw[hm]at hj;simpa using hj
 have e:(L.map (·.2))[j]=xs[j].r:=(List.getElem_of_eq hm hj).trans (by simp);obtain⟨g,o,a,lb,u,x⟩:=hf j KR;rw[e];refine⟨g,o,a,aV _,u,xs[j].m,xs[j].o,xs[j].i,xs[j].l,(h3 _ (jj KR)).1.ls.lo (aV _),fun k hk=>?_⟩;rw[x k hk];exact lJ _
def Ub (W:World) (rs:List PR) (e:Ending) (W':World):Prop:= ∃ao n c,e= .returned (.slice ao n c)∧jr 0 W' (.slice ao n c) rs∧Below W.heap.size W W'
theorem kj (h1:eO b1 w v1 L1) (h2:eO b2 w v2 L2) (e1:L1.map (·.2)=rs) (e2:L2.map (·.2)=qs)
  (hn:rs.length≤4294967296) (hm:qs.length≤4294967296) (hl: ∀r∈rs,gp r) (uR: ∀r∈qs,gp r):
  Calls prog 22 #[.agg #[v1],.agg #[v2]] w (bD w (rs=qs)):=by
 obtain⟨W2,WK⟩: ∃W2,W2=(w.alloc (.cells #[v1] 29)).alloc (.cells #[v2] 29):=⟨_,rfl⟩;have aQ:Below w.heap.size w W2:=by rw[WK];exact((aU _ w).alloc (aS _) _).alloc (by simp) _
 have k1:aM W2 w.heap.size 29 #[v1]:=by rw[WK];exact(aM.new w _ _).alloc _
 have k2:aM W2 (w.heap.size+1) 29 #[v2]:=by
  rw[WK];have:=aM.new (w.alloc (.cells #[v1] 29)) 29 #[v2];simpa using this
 have HRA:Hid (∀W,Below W2.heap.size W2 W→Calls prog 17 #[.agg #[v1]] W (Ub W rs)):=ae fun W hb=>
  (Fo ((h1.below aQ).below hb) (by rw[←e1,ln]at hn;exact hn) fun x hx=>hl _ (by rw[←e1];exact tz.2 ⟨x,hx,rfl⟩)).mono fun e W' h=>by rw[←e1];exact h.Δ
 have HRB:Hid (∀W,Below W2.heap.size W2 W→Calls prog 17 #[.agg #[v2]] W (Ub W qs)):=ae fun W hb=>
  (Fo ((h2.below aQ).below hb) (by rw[←e2,ln]at hm;exact hm) fun x hx=>uR _ (by rw[←e2];exact tz.2 ⟨x,hx,rfl⟩)).mono fun e W' h=>by rw[←e2];exact h.Δ
 have HEQ:Hid (∀W u1 u2,jr 0 W u1 rs→jr 0 W u2 qs→Calls prog 46 #[u1,u2,.func (.func 47) #[] #[]] W (bD W (rs=qs))):=ae fun W u1 u2 a b=>VV a b hn hm hl uR
 have c1:W2.drew.cell? ⟨w.heap.size,0,none⟩=some v1:=k1.cell 0;have c2:W2.drew.cell? ⟨w.heap.size+1,0,none⟩=some v2:=k2.cell 0;have Su:=ae k1;have H8:=ae k2;have bF:=ae aQ;have HW2:=ae WK;clear h1 h2 e1 e2 hn hm hl uR aQ k1 k2 WK;go_enter func22,ntmps22;go_upto_region 1 with(fail)
 rw[←HW2.out];go_region_law (first
  |(go_simp;go_at_call 17;(with_reducible refine(HRA.out _ (by first|exact(aU _ _).drew|exact ml.out)).mono ?_);rintro e Wa ⟨aa,na,ka,rfl,R4,An⟩;have HR1:=ae R4;have ZU:=ae An;have fZ:Hid (Below W2.heap.size W2 Wa):=ae (by first|exact ml.out.trans (An.mono ml.out.size)|exact(aU _ _).drew.trans An);have ca2:=(fZ.out.cell (p:=⟨w.heap.size+1,0,none⟩) H8.out.lt).trans (H8.out.cell 0);simp at ca2;clear R4 An)
  |(go_simp;go_at_call 17;(with_reducible refine(HRB.out _ (by first|exact(aU _ _).drew|exact fZ.out)).mono ?_);rintro e Wb ⟨ab,nb,kb,rfl,hrb,oc⟩;have yf:=ae hrb;have kG:=ae oc;have ml:Hid (Below W2.heap.size W2 Wb):=ae (by first|exact fZ.out.trans (oc.mono fZ.out.size)|exact(aU _ _).drew.trans oc);have cb1:=(ml.out.cell (p:=⟨w.heap.size,0,none⟩) Su.out.lt).trans (Su.out.cell 0);simp at cb1;clear hrb oc)
  |(go_simp;go_at_call 46;(with_reducible refine(HEQ.out _ _ _ (by first|exact HR1.out|exact HR1.out.below kG.out) (by first|exact yf.out|exact yf.out.below ZU.out)).mono ?_);rintro e Wc ⟨bb,rfl,oc,Wo⟩;have ZW:=ae Wo;have aku:=ae oc;clear Wo oc))
 all_goals
  go_wp2_with fail;go_ret;refine⟨bb,rfl,aku.out,?_⟩
  first
   |exact bF.out.trans ((ml.out.trans (ZW.out.mono ml.out.size)).mono bF.out.size)
   |exact bF.out.trans ((fZ.out.trans (ZW.out.mono fZ.out.size)).mono bF.out.size)
