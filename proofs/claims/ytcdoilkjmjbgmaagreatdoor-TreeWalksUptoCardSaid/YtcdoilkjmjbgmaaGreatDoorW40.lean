import Derived.Test.YtcdoilkjmjbgmaaGreatDoorW35
/- Part of the proof of YtcdoilkjmjbgmaaGreatDoorCardX: TrSc TrY. -/
set_option maxRecDepth 100000
set_option maxHeartbeats 4000000
set_option linter.unusedVariables false
set_option linter.unusedSimpArgs false
namespace Go.Proofs.YtcdoilkjmjbgmaaGreatDoor
open Go.RowKit
open Go.Proofs.Tryz
variable {w w' W:World} {rs:List PR} {b k deep:Nat} {s:List Nat} {v:Value} {r:PR} {T:Nat→World→Prop}
def Um (T:Nat→World→Prop):Prop:= ∀(w:World) (r:PR) (m o i l:Value),bw 0 w r m o i l→jU r→T w.heap.size w→Calls prog 60 #[jP r m o i l] w (aC w (ax r))
def je (w:World) (rs:List PR) (e:Ending) (w':World):Prop:= ∃(d:Int) (ok:Bool),e= .returned (.tuple #[.int .i64 d,.bool ok])∧ok=dz rs∧(ok=true→d=(iM rs:Nat))∧Below w.heap.size w w'
theorem je.no (h:dz rs=false) (hb:Below w.heap.size w w'):je w rs (.returned (.tuple #[.int .i64 0,.bool false])) w':=⟨0,false,rfl,h.symm,(fun h=>by cases h),hb⟩
theorem wE (h:trees 1 rs=false∨rs.all ax=false∨cZ rs=false):dz rs=false:=by
 unfold dz;rcases h with h|h|h<;>simp[h]
structure Xa (b:Nat) (w:World) (rs:List PR) (k:Nat) (s:List Nat) (deep:Nat) (v:Value) (W:World):Prop where
 le:k≤rs.length
 sh:fk (rs.take k) s deep
 LR:rC (rs.take k) (rs.drop k)=true
 all: ∀c∈s,0<c
 own:dM b W v s
 below:Below w.heap.size w W
 NX:s.length≤k
 agY:deep≤k
 kids: ∀c∈s,c≤rs.length
theorem Xa.next (h:Xa b w rs k s deep v W) (hk:k<rs.length) {r:PR} (hr:r=rs[k]) (hs:k=0∨s≠[]) (zP:ax r=true) (PV:(!decide (r.kind=4)||iy (rs.drop (k+1)))=true) (nU:nk r≤rs.length)
  {s':List Nat} {v':Value} {W':World} (hn:s'=norm (nk r::s)) (ho:dM b W' v' s') (hb:Below w.heap.size w W'):Xa b w rs (k+1) s' (max deep (s.length+1)) v' W':=by
 have ht:rs.take (k+1)=rs.take k++[r]:=by rw[jM hk,hr]
 have hd:rs.drop k=r::rs.drop (k+1):=by rw[nV hk,hr]
 refine⟨hk,?_,?_,?_,ho,hb,?_,?_,?_⟩
 ·rw[ht,hn];exact h.sh.step r (hs.elim (fun h0=>.inl (by rw[h0];rfl)) .inr)
 ·rw[ht];exact Ct (by rw[←hd];exact h.LR) zP PV
 ·rw[hn];exact BO _ h.all
 ·rw[hn];have:=E9 (nk r::s);have h2:=h.NX;simp only[dI]at this;omega
 ·have h1:=h.NX;have h2:=h.agY;omega
 ·rw[hn];refine norm_le _ fun c hc=>?_
  rcases gq.1 hc with rfl|hc
  ·exact nU
  ·exact h.kids c hc
theorem Xa.full {b:Nat} {w:World} {rs:List PR} {k:Nat} {deep:Nat} {v:Value} {W:World} (h:Xa b w rs k [] deep v W) (hk:k<rs.length) (h0:0<k):dz rs=false:=by
 refine wE (.inl ?_);rw[dW hk];exact h.sh.full (by intro e;have:=bT List.length e;rw[nZ,oB]at this;omega) rfl _ _
theorem CG (hk:k<rs.length) (h:ax rs[k]=false):dz rs=false:=by
 refine wE (.inr (.inl ?_));rw[Ev];exact⟨rs[k],gj hk,by simp[h]⟩
theorem Zq (hk:k<rs.length) (h:rs.length<nk rs[k]):dz rs=false:=by
 refine wE (.inl ?_);rw[dW hk];exact Cs (by rw[←dW hk];exact h)
theorem BY (hk:k<rs.length) (h4:rs[k].kind=4) (h:iy (rs.drop (k+1))=false):dz rs=false:=by
 refine wE (.inr (.inr ?_));rw[dW hk];exact GQ h h4
theorem KU (h:k+1=rs.length):iy (rs.drop (k+1))=false:=by
 rw[Ol (by omega)];rfl
theorem uO (h:k+1<rs.length):iy (rs.drop (k+1))=decide (rs[k+1].kind=3):=by
 rw[nV h];rfl
theorem wF (h:ax r=true):r.kids=(nk r:Int):=by
 have h1:de r.kind r.kids=true:=by
  unfold ax at h;simp only[kF]at h;exact h.1.1
 have h2:0≤r.kids:=by
  unfold de at h1
  repeat' split at h1
  all_goals simp at h1
  all_goals omega
 unfold nk;omega
theorem KV (hT:pT (fun _=>True) T) (hS:Um T) {b:Nat} {w:World} {v:Value} {rs:List PR} (h:oM b w v rs) (hlen:rs.length≤1048576) (pG: ∀r∈rs,jU r) (kD:T w.heap.size w):
  Calls prog 31 #[v] w (je w rs):=by
 obtain⟨ao,c,rfl,hc⟩:=h;have HC:=aa hc;have xb:=aa pG;have xc:Hid (∀W,Below w.heap.size w W→T W.heap.size W):=aa fun W hb=>hT.mono (hT.fN kD hb) hb.size
 clear hc pG kD;go_enter func31,ntmps31;go_wp2_with fail;go_loopw [4,5,10] (fun t4 t5 t10 wr=> ∃(k:Nat) (s:List Nat) (deep:Nat),t10= .int .i64 (k:Int)∧t5= .int .i64 (deep:Int)∧Hid (Xa w.heap.size w rs k s deep t4 wr)) (fun _ _ t10 _=>rs.length-(intOf t10).toNat)
 case atStart=>exact⟨0,[],0,rfl,rfl,aa ⟨aT _,fk.start,by simp[rC],(fun c h=>by cases h),dM.nil _ _,aS _ _,aT _,aT _,(fun c h=>by cases h)⟩⟩
 case round=>
  as_aux_lemma=>
   obtain⟨k,s,deep,rfl,rfl,hI⟩:=hrel;by_cases au:k<rs.length
   ·have p1:((k:Int)<(rs.length:Int))=True:=az (by omega);obtain⟨g,o,rfl,hbg,hg,vm,vo,vi,vl,mj,aZ⟩:=HC.out k au;have hb:=hI.out.below;obtain⟨r,hr⟩: ∃r,r=rs[k]:=⟨_,rfl⟩;rw[←hr]at mj;obtain⟨⟨am,cm,rfl,_⟩,⟨uf,co,rfl,_⟩,⟨ai,ci,rfl,_⟩,⟨al,cl,rfl,_⟩⟩:=id mj;obtain⟨nm,S9⟩: ∃n,n=r.ms.length:=⟨_,rfl⟩;obtain⟨no,tw⟩: ∃n,n=r.mls.length:=⟨_,rfl⟩;obtain⟨ni,XQ⟩: ∃n,n=r.inc.length:=⟨_,rfl⟩;obtain⟨nl,Lz⟩: ∃n,n=r.labels.length:=⟨_,rfl⟩;rw[←S9,←tw,←XQ,←Lz]at mj;rw[←hr]at aZ;rw[←S9,←tw,←XQ,←Lz]at aZ;have c0:wr.cell? ⟨g,o+k*17,none⟩=some (.int .i64 r.kind):=(hb.cell (p:=⟨g,_,none⟩) hg).trans (aZ 0 (by omega));have c1:wr.cell? ⟨g,o+k*17+1,none⟩=some (.int .i64 r.kids):=(hb.cell (p:=⟨g,_,none⟩) hg).trans (aZ 1 (by omega));have c2:wr.cell? ⟨g,o+k*17+2,none⟩=some (.string r.op):=(hb.cell (p:=⟨g,_,none⟩) hg).trans (aZ 2 (by omega));have c3:wr.cell? ⟨g,o+k*17+3,none⟩=some (.string r.text):=(hb.cell (p:=⟨g,_,none⟩) hg).trans (aZ 3 (by omega));have c4:wr.cell? ⟨g,o+k*17+4,none⟩=some (.slice am nm cm):=(hb.cell (p:=⟨g,_,none⟩) hg).trans (aZ 4 (by omega));have c5:wr.cell? ⟨g,o+k*17+5,none⟩=some (.string r.bQ):=(hb.cell (p:=⟨g,_,none⟩) hg).trans (aZ 5 (by omega));have c6:wr.cell? ⟨g,o+k*17+6,none⟩=some (.string r.step):=(hb.cell (p:=⟨g,_,none⟩) hg).trans (aZ 6 (by omega));have c7:wr.cell? ⟨g,o+k*17+7,none⟩=some (.string r.off):=(hb.cell (p:=⟨g,_,none⟩) hg).trans (aZ 7 (by omega));have c8:wr.cell? ⟨g,o+k*17+8,none⟩=some (.string r.tim):=(hb.cell (p:=⟨g,_,none⟩) hg).trans (aZ 8 (by omega));have c9:wr.cell? ⟨g,o+k*17+9,none⟩=some (.bool r.bool):=(hb.cell (p:=⟨g,_,none⟩) hg).trans (aZ 9 (by omega));have WY:wr.cell? ⟨g,o+k*17+10,none⟩=some (.bool r.given):=(hb.cell (p:=⟨g,_,none⟩) hg).trans (aZ 10 (by omega));have WZ:wr.cell? ⟨g,o+k*17+11,none⟩=some (.bool r.on):=(hb.cell (p:=⟨g,_,none⟩) hg).trans (aZ 11 (by omega));have c12:wr.cell? ⟨g,o+k*17+12,none⟩=some (.slice uf no co):=(hb.cell (p:=⟨g,_,none⟩) hg).trans (aZ 12 (by omega));have S5:wr.cell? ⟨g,o+k*17+13,none⟩=some (.int .i64 r.card):=(hb.cell (p:=⟨g,_,none⟩) hg).trans (aZ 13 (by omega));have Li:wr.cell? ⟨g,o+k*17+14,none⟩=some (.slice ai ni ci):=(hb.cell (p:=⟨g,_,none⟩) hg).trans (aZ 14 (by omega));have S6:wr.cell? ⟨g,o+k*17+15,none⟩=some (.bool r.without):=(hb.cell (p:=⟨g,_,none⟩) hg).trans (aZ 15 (by omega));have Iq:wr.cell? ⟨g,o+k*17+16,none⟩=some (.slice al nl cl):=(hb.cell (p:=⟨g,_,none⟩) hg).trans (aZ 16 (by omega));have ζ:=aa (mj.below hb);have HR:=aa hr;have HGT:=aa (show g<wr.heap.size from gO hg hb.size);clear mj aZ hb hr;have HN4:=aa (And.intro S9 (And.intro tw (And.intro XQ Lz)));clear S9 tw XQ Lz;go_upto_region 6 with(refine ay rfl 46 (.tmp 7) (.tmp 14) rfl wr.heap.size _ rfl rfl (aH.new _ _ _) aN rfl rfl ?_)
    intro W' hz iu;go_upto_region 6 with(fail)
    have hbW:Below wr.heap.size wr W':=ic ((aS wr.heap.size wr).alloc (aP _) _) iu (by simp) (aP _);obtain⟨av,cv,hv⟩:=hI.out.own.sl;subst hv;have HZ:=aa hz;have HI:Hid (Xa w.heap.size w rs k s deep (.slice av s.length cv) W'):=aa {hI.out with own:=hI.out.own.below hbW,below:=hI.out.below.trans (hbW.mono hI.out.below.size)};have HLW:=aa (ζ.out.below hbW);have XB:Hid (∀j (hj:j<rs.length),W'.cell? ⟨g,o+j*17,none⟩=some (.int .i64 rs[j].kind)):=aa fun j hj=>by
     obtain⟨g',o',he,_,hg',_,_,_,_,_,Qb⟩:=HC.out j hj;cases he;exact((hI.out.below.trans (hbW.mono hI.out.below.size)).cell (p:=⟨g,_,none⟩) hg').trans (Qb 0 (by omega))
    clear hz iu hbW;clear c0 c1 c2 c3 c4 c5 c6 c7 c8 c9 WY WZ c12 S5 Li S6 Iq;by_cases hA:0<k∧s=[]
    ·obtain⟨Z3,rfl⟩:=hA;have p2:((0:Int)<(k:Int))=True:=az (by omega);have HP:=aa (je.no (w:=w) (HI.out.full au Z3) HI.out.below);clear hI;go_wp2_with fail;go_ret2;exact HP.out
    ·have hs:k=0∨s≠[]:=by
      rcases jK k with h0|h0
      ·exact .inl h0
      ·exact .inr fun e=>hA ⟨h0,e⟩
     have nt:=aa hs;have Bq:=aa (hS W' r _ _ _ _ (HLW.out.lo (aT _)) (xb.out r (by rw[HR.out];exact gj au)) (xc.out W' HI.out.below));have pz:(k=0∧((0:Int)<(k:Int))=False∧(0<k)=False)∨(((0:Int)<(k:Int))=True∧(0<k)=True∧((s.length:Int)==0)=false∧(s.length=0)=False):=by
      rcases jK k with h0|h0
      ·exact .inl ⟨h0,bL (by omega),bL (by omega)⟩
      ·have bC:=hs.resolve_left (by omega);have:0<s.length:=Es.2 bC;exact .inr ⟨az (by omega),az (by omega),by rw[bK];omega,bL (by omega)⟩
     clear hA hs hI;have pz2:(((0:Int)<(k:Int))=False∧(0<k)=False)∨(((0:Int)<(k:Int))=True∧(0<k)=True∧((s.length:Int)==0)=false∧(s.length=0)=False):=pz.elim (fun h=>.inl h.2) .inr;clear pz;go_cut [33]from 15 to 33 (fun t33 wx=> ∃b,t33= .bool b∧Hid ((b=true→dz rs=false)∧(b=false→ax r=true∧nk r≤rs.length)∧Below W'.heap.size W' wx))
     case first=>
      as_aux_lemma=>
       have e0:W'.cell? ⟨wr.heap.size,0,none⟩=some (.int .i64 r.kind):=HZ.out.cell 0;have e1:W'.cell? ⟨wr.heap.size,1,none⟩=some (.int .i64 r.kids):=HZ.out.cell 1;have e2:W'.cell? ⟨wr.heap.size,2,none⟩=some (.string r.op):=HZ.out.cell 2;have e3:W'.cell? ⟨wr.heap.size,3,none⟩=some (.string r.text):=HZ.out.cell 3;have e4:W'.cell? ⟨wr.heap.size,4,none⟩=some (.slice am nm cm):=HZ.out.cell 4;have e5:W'.cell? ⟨wr.heap.size,5,none⟩=some (.string r.bQ):=HZ.out.cell 5;have e6:W'.cell? ⟨wr.heap.size,6,none⟩=some (.string r.step):=HZ.out.cell 6;have e7:W'.cell? ⟨wr.heap.size,7,none⟩=some (.string r.off):=HZ.out.cell 7;have e8:W'.cell? ⟨wr.heap.size,8,none⟩=some (.string r.tim):=HZ.out.cell 8;have e9:W'.cell? ⟨wr.heap.size,9,none⟩=some (.bool r.bool):=HZ.out.cell 9;have Lu:W'.cell? ⟨wr.heap.size,10,none⟩=some (.bool r.given):=HZ.out.cell 10;have e11:W'.cell? ⟨wr.heap.size,11,none⟩=some (.bool r.on):=HZ.out.cell 11;have e12:W'.cell? ⟨wr.heap.size,12,none⟩=some (.slice uf no co):=HZ.out.cell 12;have e13:W'.cell? ⟨wr.heap.size,13,none⟩=some (.int .i64 r.card):=HZ.out.cell 13;have e14:W'.cell? ⟨wr.heap.size,14,none⟩=some (.slice ai ni ci):=HZ.out.cell 14;have e15:W'.cell? ⟨wr.heap.size,15,none⟩=some (.bool r.without):=HZ.out.cell 15;have SX:W'.cell? ⟨wr.heap.size,16,none⟩=some (.slice al nl cl):=HZ.out.cell 16;by_cases zP:ax r=true
       ·have hnk:=wF zP;rw[zP]at Bq;have HSR:=aa zP;have HNK:=aa hnk;clear zP hnk;have pk:((((rs.length:Int)<(nk r:Int))=False)∧nk r≤rs.length)∨((((rs.length:Int)<(nk r:Int))=True)∧rs.length<nk r):=by
         by_cases h:nk r≤rs.length
         ·exact .inl ⟨bL (by omega),h⟩
         ·exact .inr ⟨az (by omega),by omega⟩
        rcases pk with⟨p4,u6⟩|⟨p4,u6⟩
        ·have HK4:=aa u6;clear u6;rcases pz2 with⟨p2,p6⟩|⟨p2,p6,p3,p5⟩
         all_goals
          go_wp2_with ((go_at_call 60;refine Bq.out.mono ?_;rintro e W2 ⟨rfl,aM⟩;have y1:W2.cell? ⟨wr.heap.size,1,none⟩=some (.int .i64 (nk r:Int)):=(aM.cell (p:=⟨wr.heap.size,1,none⟩) HZ.out.lt).trans ((HZ.out.cell 1).trans (by rw[←HNK.out];rfl));have bD:=aa aM;clear aM));go_meet;exact⟨false,rfl,aa ⟨(fun h=>by cases h),fun _=>⟨HSR.out,HK4.out⟩,bD.out⟩⟩
        ·have HP:=aa (Zq au (by rw[←HR.out];exact u6));clear u6;rcases pz2 with⟨p2,p6⟩|⟨p2,p6,p3,p5⟩
         all_goals
          go_wp2_with ((go_at_call 60;refine Bq.out.mono ?_;rintro e W2 ⟨rfl,aM⟩;have y1:W2.cell? ⟨wr.heap.size,1,none⟩=some (.int .i64 (nk r:Int)):=(aM.cell (p:=⟨wr.heap.size,1,none⟩) HZ.out.lt).trans ((HZ.out.cell 1).trans (by rw[←HNK.out];rfl));have bD:=aa aM;clear aM));go_meet;exact⟨true,rfl,aa ⟨fun _=>HP.out,(fun h=>by cases h),bD.out⟩⟩
       ·have hsf:ax r=false:=by cases h:ax r with|false=>rfl|true=>exact absurd h zP
        rw[hsf]at Bq;have HP:=aa (CG au (by rw[←HR.out];exact hsf));clear zP hsf;rcases pz2 with⟨p2,p6⟩|⟨p2,p6,p3,p5⟩
        all_goals
         go_wp2_with ((go_at_call 60;refine Bq.out.mono ?_;rintro e W2 ⟨rfl,aM⟩;have bD:=aa aM;clear aM));go_meet;exact⟨true,rfl,aa ⟨fun _=>HP.out,(fun h=>by cases h),bD.out⟩⟩
     case rest=>
      as_aux_lemma=>
       obtain⟨bb,rfl,hH⟩:=hcut;cases bb with
       |true=>
        have HP:=aa (je.no (w:=w) (hH.out.1 rfl) (HI.out.below.trans (hH.out.2.2.mono HI.out.below.size)));clear hH;go_wp2_with fail;go_ret2;exact HP.out
       |false=>
        have HH:=aa (hH.out.2.1 rfl);have HBC:=aa hH.out.2.2;have Xb:Hid (Xa w.heap.size w rs k s deep (.slice av s.length cv) wc):=aa {HI.out with own:=HI.out.own.below HBC.out,below:=HI.out.below.trans (HBC.out.mono HI.out.below.size)};have f0:wc.cell? ⟨wr.heap.size,0,none⟩=some (.int .i64 r.kind):=(HBC.out.cell (p:=⟨wr.heap.size,0,none⟩) HZ.out.lt).trans (HZ.out.cell 0);have f1:wc.cell? ⟨wr.heap.size,1,none⟩=some (.int .i64 (nk r:Int)):=(HBC.out.cell (p:=⟨wr.heap.size,1,none⟩) HZ.out.lt).trans ((HZ.out.cell 1).trans (by rw[←wF HH.out.1];rfl));have HNX:Hid (∀j (hj:j<rs.length),wc.cell? ⟨g,o+j*17,none⟩=some (.int .i64 rs[j].kind)):=aa fun j hj=>(HBC.out.cell (p:=⟨g,_,none⟩) (by
         have h1:=XB.out j hj;have h2:=HGT.out;have h3:=HZ.out.lt;show g<W'.heap.size;omega)).trans (XB.out j hj)
        clear hH;have pn:((k:Int)+1=(rs.length:Int))∨k+1<rs.length:=by omega
        go_upto_region 8 with(fail)
        go_cut [52]from 34 to 52 (fun t52 wx=> ∃b,t52= .bool b∧wx=wc∧Hid ((b=true→dz rs=false)∧(b=false→(!decide (r.kind=4)||iy (rs.drop (k+1)))=true)))
        case first=>
         as_aux_lemma=>
          by_cases u6:r.kind=4
          ·have q4:(r.kind==4)=true:=by simp[u6]
           have HK4:=aa u6;clear u6;rcases pn with pe|pl
           ·have HP:=aa (BY au (by rw[←HR.out];exact HK4.out) (KU (by omega)));have q5:((k:Int)+1==(rs.length:Int))=true:=by rw[cn];exact pe
            clear pe;go_wp2_with fail;go_meet;exact⟨true,rfl,rfl,aa ⟨fun _=>HP.out,(fun h=>by cases h)⟩⟩
           ·have q5:((k:Int)+1==(rs.length:Int))=false:=by rw[bK];omega
            have nx:=HNX.out (k+1) pl;have q6:((k:Int)+1<(rs.length:Int))=True:=az (by omega);by_cases h3:rs[k+1].kind=3
            ·have HP:Hid ((!decide (r.kind=4)||iy (rs.drop (k+1)))=true):=aa (by rw[uO pl,h3];simp);have q7:(rs[k+1].kind==3)=true:=by simp[h3]
             have q8:(rs[k+1].kind != 3)=false:=by simp[h3]
             clear h3;generalize rs[k+1].kind=nkd at nx q7 q8;go_wp2_with fail;go_meet;exact⟨false,rfl,rfl,aa ⟨(fun h=>by cases h),fun _=>HP.out⟩⟩
            ·have HP:=aa (BY au (by rw[←HR.out];exact HK4.out) (by rw[uO pl];exact gp h3));have q7:(rs[k+1].kind==3)=false:=by simpa using h3
             have q8:(rs[k+1].kind != 3)=true:=by simpa using h3
             clear h3;generalize rs[k+1].kind=nkd at nx q7 q8;go_wp2_with fail;go_meet;exact⟨true,rfl,rfl,aa ⟨fun _=>HP.out,(fun h=>by cases h)⟩⟩
          ·have q4:(r.kind==4)=false:=by simpa using u6
           have HP:Hid ((!decide (r.kind=4)||iy (rs.drop (k+1)))=true):=aa (by simp[u6]);clear u6 pn;go_wp2_with fail;go_meet;exact⟨false,rfl,rfl,aa ⟨(fun h=>by cases h),fun _=>HP.out⟩⟩
        case rest=>
         as_aux_lemma=>
          obtain⟨b2,rfl,rfl,hG⟩:=hcut;cases b2 with
          |true=>
           have HP:=aa (je.no (w:=w) (hG.out.1 rfl) Xb.out.below);clear hG;go_wp2_with fail;go_ret2;exact HP.out
          |false=>
           have HRN:=aa (hG.out.2 rfl);clear hG pn;have F7:Hid (wc.ownsRow w.heap.size 3 1 (.slice av s.length cv) s.length (s.reverse.map pV)):=aa Xb.out.own;have Z0:s.length≤1048576:=by have:=Xb.out.NX;omega
           go_wp2_with ((at_builtin;refine iq rfl (.tmp 53) (.tmp 56) 33 rfl w.heap.size 3 (.int .i64 0) 1 8 BP underlying33 rfl (by decide) _ _ _ rfl F7.out [.int .i64 (nk r:Int)] rfl rfl (zU rfl) (by unfold maxLen;omega) (by omega) Xb.out.below.size ?_));intro v2 W5 aL iu;have pC:=aa (Xb.out.below.grown iu Xb.out.below.size (fun q hq=>(F7.out.lt q hq).1));have HO5:Hid (dM w.heap.size W5 v2 (nk r::s)):=aa (dM.push (by rw[←List.map_reverse]at aL;exact aL));obtain⟨a5,c5,hv5⟩:=HO5.out.sl;subst hv5;simp only[dI]at HO5 ⊢
           have HM:Hid (max (deep:Int) ((s.length:Int)+1)=((max deep (s.length+1):Nat):Int)):=aa (by omega);clear aL iu f0 f1 F7;go_wp2_with fail;go_loopw [4] (fun t4 wx=> ∃s':List Nat,Hid (norm s'=norm (nk r::s)∧(∀c∈s'.tail,0<c)∧dM w.heap.size wx t4 s'∧Below w.heap.size w wx∧s'.length≤1048577∧ ∀c∈s',c≤rs.length)) (fun t4 _=>rN t4)
           case atStart=>exact⟨nk r::s,aa ⟨rfl,Xb.out.all,HO5.out,pC.out,by simp only[dI];omega,fun c hc=>(gq.1 hc).elim (fun e=>e▸HH.out.2) (Xb.out.kids c)⟩⟩
           case round=>
            as_aux_lemma=>
             obtain⟨s',hJ⟩:=hrel;obtain⟨a6,c6,hv6⟩:=hJ.out.2.2.1.sl;subst hv6;have Tt:=hJ.out.2.2.2.2.1;cases s' with
             |nil=>
              have HE:Hid (Xa w.heap.size w rs (k+1) [] (max deep (s.length+1)) (.slice a6 0 c6) wr):=aa (Xb.out.next au HR.out nt.out HH.out.1 HRN.out HH.out.2 (by rw[←hJ.out.1,fJ]) hJ.out.2.2.1 hJ.out.2.2.2.1);simp only[oB];clear Tt hJ;go_wp2_with fail;exact⟨⟨k+1,[],max deep (s.length+1),by go_num,by rw[←HM.out],HE⟩,gH au⟩
             |cons x t=>
              have OE:=hJ.out.2.2.1.form;obtain⟨g6,c7,h6,Lw,hg6⟩:=OE.resolve_left (fun h=>by cases h.2);injection h6 with e1 e2 e3
              subst e1 e3;have DJ:=hJ.out.2.2.1.top;have uu:=hJ.out.2.2.1.cap;have m1:=DJ.1;have m2:=DJ.2;simp only[dI]at Tt uu ⊢
              have NZ:=hJ.out.2.2.2.2.2 x (by simp);by_cases hx:x=0
              ·subst hx;have Qd:=hJ.out.2.2.1.pop rfl;cases t with
               |nil=>
                have HE:Hid (norm ([]:List Nat)=norm (nk r::s)∧(∀c∈([]:List Nat).tail,0<c)∧dM w.heap.size wr (.slice (some ⟨g6,0,none⟩) 0 c6) []∧Below w.heap.size w wr∧([]:List Nat).length≤1048577∧ ∀c∈([]:List Nat),c≤rs.length):=aa ⟨by rw[←hJ.out.1,kT,fJ],(fun c h=>by cases h),Qd,hJ.out.2.2.2.1,by simp,(fun c h=>by cases h)⟩;simp only[oB,mw]at m1 m2 Tt ⊢
                clear hJ OE DJ Qd;go_wp2_with fail;exact⟨⟨[],HE⟩,by simp[rN]⟩
               |cons y t2=>
                have hy:=hJ.out.2.1 y (by simp);have hyl:=hJ.out.2.2.2.2.2 y (by simp);have hd:=Qd.dec (y-1);have n1:=Qd.top.1;have n2:=Qd.top.2;have HE:Hid (norm ((y-1)::t2)=norm (nk r::s)∧(∀c∈((y-1)::t2).tail,0<c)∧dM w.heap.size (wr.setCell ⟨g6,t2.length,none⟩ (.int .i64 ((y-1:Nat):Int))) (.slice (some ⟨g6,0,none⟩) (t2.length+1) c6) ((y-1)::t2)∧Below w.heap.size w (wr.setCell ⟨g6,t2.length,none⟩ (.int .i64 ((y-1:Nat):Int)))∧((y-1)::t2).length≤1048577∧ ∀c∈(y-1)::t2,c≤rs.length):=aa ⟨by rw[←hJ.out.1,jj],fun c hc=>hJ.out.2.1 c (by simp at hc ⊢;exact .inr hc),hd,hJ.out.2.2.2.1.setCell (p:=⟨g6,_,none⟩) Lw _,by simp only[dI]at Tt ⊢;omega,fun c hc=>(gq.1 hc).elim (fun e=>by omega) (fun h=>hJ.out.2.2.2.2.2 c (by simp[h]))⟩;have HY:Hid ((y:Int)-1=((y-1:Nat):Int)):=aa (by omega);simp only[dI]at m1 m2 Tt uu ⊢
                clear hJ OE DJ Qd hd;go_wp2_with fail;rw[HY.out];exact⟨⟨(y-1)::t2,HE⟩,by simp[rN]⟩
              ·have q1:((x:Int)==0)=false:=by rw[bK];omega
               have HE:Hid (Xa w.heap.size w rs (k+1) (x::t) (max deep (s.length+1)) (.slice (some ⟨g6,0,none⟩) (t.length+1) c6) wr):=aa (Xb.out.next au HR.out nt.out HH.out.1 HRN.out HH.out.2 (by rw[←hJ.out.1,kV t (by omega)]) hJ.out.2.2.1 hJ.out.2.2.2.1);clear hJ OE DJ hx;go_wp2_with fail;exact⟨⟨k+1,x::t,max deep (s.length+1),by go_num,by rw[←HM.out],HE⟩,gH au⟩
   ·have tX:k=rs.length:=by have:=hI.out.le;omega
    have p1:((k:Int)<(rs.length:Int))=False:=bL (by omega);obtain⟨av,cv,hv⟩:=hI.out.own.sl;subst hv;have fF:rs.take k=rs:=by rw[tX];exact rh
    have XS:dz rs=(decide (0<rs.length)&&decide (s.length=0)):=by
     have h1:=hI.out.LR;rw[tX,List.drop_length,rh]at h1;have h2:=hI.out.sh.done;rw[fF]at h2;rw[Fb h1,h2]
     congr 1
     ·cases rs<;>simp
     ·cases s<;>simp
    have hde:(deep:Int)=((iM rs:Nat):Int):=by
     have h3:=hI.out.sh.iM;rw[fF]at h3;rw[h3]
    have HP:=aa (And.intro XS (And.intro hde hI.out.below));clear XS hde fF hI tX;by_cases h0:rs.length=0
    ·have q1:((0:Int)<(rs.length:Int))=False:=bL (by omega);have q2:(0<rs.length)=False:=bL (by omega);go_wp2_with fail;go_ret2;exact⟨_,false,rfl,by rw[HP.out.1];simp[h0],(fun h=>by cases h),HP.out.2.2⟩
    ·have q1:((0:Int)<(rs.length:Int))=True:=az (by omega);have q2:(0<rs.length)=True:=az (by omega);by_cases s7:s.length=0
     ·have q3:((s.length:Int)==0)=true:=by rw[cn];omega
      have HT:Hid (dz rs=true):=aa (by rw[HP.out.1];simp[s7];omega);clear h0;go_wp2_with fail;go_ret2;exact⟨_,true,rfl,HT.out.symm,fun _=>HP.out.2.1,HP.out.2.2⟩
     ·have q3:((s.length:Int)==0)=false:=by rw[bK];omega
      have HT:Hid (dz rs=false):=aa (by rw[HP.out.1];simp[s7]);clear h0;go_wp2_with fail;go_ret2;exact⟨_,false,rfl,HT.out.symm,(fun h=>by cases h),HP.out.2.2⟩
