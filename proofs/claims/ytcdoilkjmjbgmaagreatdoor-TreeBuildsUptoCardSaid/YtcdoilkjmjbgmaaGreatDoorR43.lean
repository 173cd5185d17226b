import Derived.Test.YtcdoilkjmjbgmaaGreatDoorR36
/- Part of the proof of YtcdoilkjmjbgmaaGreatDoorCardR: TrY. -/
set_option maxRecDepth 100000
set_option maxHeartbeats 4000000
set_option linter.unusedVariables false
set_option linter.unusedSimpArgs false
namespace Go.Proofs.YtcdoilkjmjbgmaaGreatDoor
open Go.RowKit
open Tryz
variable {w w' W:World} {rs:List PR} {b k deep:Nat} {s:List Nat} {v:Value} {r:PR} {T:Nat→World→Prop}
def jg (w:World) (rs:List PR) (e:Ending) (w':World):Prop:= ∃(d:Int) (ok:Bool),e= .returned (.tuple #[.int .i64 d,.bool ok])∧ok=dC rs∧(ok=true→d=(ie rs:Nat))∧Below w.heap.size w w'
theorem jg.no (h:dC rs=false) (hb:Below w.heap.size w w'):jg w rs (.returned (.tuple #[.int .i64 0,.bool false])) w':=⟨0,false,rfl,h.symm,(fun h=>by cases h),hb⟩
theorem wW (h:trees 1 rs=false∨rs.all az=false∨dh rs=false):dC rs=false:=by
 unfold dC;rcases h with h|h|h<;>simp[h]
structure WN (b:Nat) (w:World) (rs:List PR) (k:Nat) (s:List Nat) (deep:Nat) (v:Value) (W:World):Prop where
 le:k≤rs.length
 sh:ft (rs.take k) s deep
 Ma:rG (rs.take k) (rs.drop k)=true
 all: ∀c∈s,0<c
 own:dL b W v s
 below:Below w.heap.size w W
 Oh:s.length≤k
 ag6:deep≤k
 kids: ∀c∈s,c≤rs.length
theorem WN.next (h:WN b w rs k s deep v W) (hk:k<rs.length) {r:PR} (hr:r=rs[k]) (hs:k=0∨s≠[]) (zW:az r=true) (Qa:(!decide (r.kind=4)||iw (rs.drop (k+1)))=true) (qY:nk r≤rs.length)
  {s':List Nat} {v':Value} {W':World} (hn:s'=norm (nk r::s)) (ho:dL b W' v' s') (hb:Below w.heap.size w W'):WN b w rs (k+1) s' (max deep (s.length+1)) v' W':=by
 have ht:rs.take (k+1)=rs.take k++[r]:=by rw[jy hk,hr]
 have hd:rs.drop k=r::rs.drop (k+1):=by rw[pq hk,hr]
 refine⟨hk,?_,?_,?_,ho,hb,?_,?_,?_⟩
 ·rw[ht,hn];exact h.sh.step r (hs.elim (fun h0=>.inl (by rw[h0];rfl)) .inr)
 ·rw[ht];exact CK (by rw[←hd];exact h.Ma) zW Qa
 ·rw[hn];exact B7 _ h.all
 ·rw[hn];have:=Fg (nk r::s);have h2:=h.Oh;simp only[dZ]at this;omega
 ·have h1:=h.Oh;have h2:=h.ag6;omega
 ·rw[hn];refine norm_le _ fun c hc=>?_
  rcases gB.1 hc with rfl|hc
  ·exact qY
  ·exact h.kids c hc
theorem WN.full {b:Nat} {w:World} {rs:List PR} {k:Nat} {deep:Nat} {v:Value} {W:World} (h:WN b w rs k [] deep v W) (hk:k<rs.length) (h0:0<k):dC rs=false:=by
 refine wW (.inl ?_);rw[dY hk];exact h.sh.full (by intro e;have:=cz List.length e;rw[nU,nW]at this;omega) rfl _ _
theorem CZ (hk:k<rs.length) (h:az rs[k]=false):dC rs=false:=by
 refine wW (.inr (.inl ?_));rw[EC];exact⟨rs[k],jz hk,by simp[h]⟩
theorem Y3 (hk:k<rs.length) (h:rs.length<nk rs[k]):dC rs=false:=by
 refine wW (.inl ?_);rw[dY hk];exact CJ (by rw[←dY hk];exact h)
theorem Cj (hk:k<rs.length) (h4:rs[k].kind=4) (h:iw (rs.drop (k+1))=false):dC rs=false:=by
 refine wW (.inr (.inr ?_));rw[dY hk];exact G2 h h4
theorem Le (h:k+1=rs.length):iw (rs.drop (k+1))=false:=by
 rw[OC (by omega)];rfl
theorem u9 (h:k+1<rs.length):iw (rs.drop (k+1))=decide (rs[k+1].kind=3):=by
 rw[pq h];rfl
theorem wX (h:az r=true):r.kids=(nk r:Int):=by
 have h1:du r.kind r.kids=true:=by
  unfold az at h;simp only[kN]at h;exact h.1.1
 have h2:0≤r.kids:=by
  unfold du at h1
  repeat' split at h1
  all_goals simp at h1
  all_goals omega
 unfold nk;omega
theorem Lf (hT:pK (fun _=>True) T) (hS:Ud T) {b:Nat} {w:World} {v:Value} {rs:List PR} (h:lP b w v rs) (hlen:rs.length≤1048576) (po: ∀r∈rs,iZ r) (kL:T w.heap.size w):
  Calls prog 31 #[v] w (jg w rs):=by
 obtain⟨ao,c,rfl,hc⟩:=h;have HC:=aa hc;have xB:=aa po;have xx:Hid (∀W,Below w.heap.size w W→T W.heap.size W):=aa fun W hb=>hT.mono (hT.fY kL hb) hb.size
 clear hc po kL;go_enter func31,ntmps31;go_wp2_with fail;go_loopw [4,5,10] (fun t4 t5 t10 wr=> ∃(k:Nat) (s:List Nat) (deep:Nat),t10= .int .i64 (k:Int)∧t5= .int .i64 (deep:Int)∧Hid (WN w.heap.size w rs k s deep t4 wr)) (fun _ _ t10 _=>rs.length-(intOf t10).toNat)
 case atStart=>exact⟨0,[],0,rfl,rfl,aa ⟨dQ _,ft.start,by simp[rG],(fun c h=>by cases h),dL.nil _ _,aV _ _,dQ _,dQ _,(fun c h=>by cases h)⟩⟩
 case round=>
  as_aux_lemma=>
   obtain⟨k,s,deep,rfl,rfl,hI⟩:=hrel;by_cases ax:k<rs.length
   ·have p1:((k:Int)<(rs.length:Int))=True:=aA (by omega);obtain⟨g,o,rfl,hbg,hg,vm,vo,vi,vl,lr,bh⟩:=HC.out k ax;have hb:=hI.out.below;obtain⟨r,hr⟩: ∃r,r=rs[k]:=⟨_,rfl⟩;rw[←hr]at lr;obtain⟨⟨am,cm,rfl,_⟩,⟨tu,co,rfl,_⟩,⟨ai,ci,rfl,_⟩,⟨al,cl,rfl,_⟩⟩:=id lr;obtain⟨nm,IE⟩: ∃n,n=r.ms.length:=⟨_,rfl⟩;obtain⟨no,tJ⟩: ∃n,n=r.mls.length:=⟨_,rfl⟩;obtain⟨ni,XD⟩: ∃n,n=r.inc.length:=⟨_,rfl⟩;obtain⟨nl,IA⟩: ∃n,n=r.labels.length:=⟨_,rfl⟩;rw[←IE,←tJ,←XD,←IA]at lr;rw[←hr]at bh;rw[←IE,←tJ,←XD,←IA]at bh;have c0:wr.cell? ⟨g,o+k*17,none⟩=some (.int .i64 r.kind):=(hb.cell (p:=⟨g,_,none⟩) hg).trans (bh 0 (by omega));have c1:wr.cell? ⟨g,o+k*17+1,none⟩=some (.int .i64 r.kids):=(hb.cell (p:=⟨g,_,none⟩) hg).trans (bh 1 (by omega));have c2:wr.cell? ⟨g,o+k*17+2,none⟩=some (.string r.op):=(hb.cell (p:=⟨g,_,none⟩) hg).trans (bh 2 (by omega));have c3:wr.cell? ⟨g,o+k*17+3,none⟩=some (.string r.text):=(hb.cell (p:=⟨g,_,none⟩) hg).trans (bh 3 (by omega));have c4:wr.cell? ⟨g,o+k*17+4,none⟩=some (.slice am nm cm):=(hb.cell (p:=⟨g,_,none⟩) hg).trans (bh 4 (by omega));have c5:wr.cell? ⟨g,o+k*17+5,none⟩=some (.string r.bV):=(hb.cell (p:=⟨g,_,none⟩) hg).trans (bh 5 (by omega));have c6:wr.cell? ⟨g,o+k*17+6,none⟩=some (.string r.step):=(hb.cell (p:=⟨g,_,none⟩) hg).trans (bh 6 (by omega));have c7:wr.cell? ⟨g,o+k*17+7,none⟩=some (.string r.off):=(hb.cell (p:=⟨g,_,none⟩) hg).trans (bh 7 (by omega));have c8:wr.cell? ⟨g,o+k*17+8,none⟩=some (.string r.tim):=(hb.cell (p:=⟨g,_,none⟩) hg).trans (bh 8 (by omega));have c9:wr.cell? ⟨g,o+k*17+9,none⟩=some (.bool r.bool):=(hb.cell (p:=⟨g,_,none⟩) hg).trans (bh 9 (by omega));have P4:wr.cell? ⟨g,o+k*17+10,none⟩=some (.bool r.given):=(hb.cell (p:=⟨g,_,none⟩) hg).trans (bh 10 (by omega));have P5:wr.cell? ⟨g,o+k*17+11,none⟩=some (.bool r.on):=(hb.cell (p:=⟨g,_,none⟩) hg).trans (bh 11 (by omega));have c12:wr.cell? ⟨g,o+k*17+12,none⟩=some (.slice tu no co):=(hb.cell (p:=⟨g,_,none⟩) hg).trans (bh 12 (by omega));have P6:wr.cell? ⟨g,o+k*17+13,none⟩=some (.int .i64 r.card):=(hb.cell (p:=⟨g,_,none⟩) hg).trans (bh 13 (by omega));have P7:wr.cell? ⟨g,o+k*17+14,none⟩=some (.slice ai ni ci):=(hb.cell (p:=⟨g,_,none⟩) hg).trans (bh 14 (by omega));have Ox:wr.cell? ⟨g,o+k*17+15,none⟩=some (.bool r.without):=(hb.cell (p:=⟨g,_,none⟩) hg).trans (bh 15 (by omega));have Oy:wr.cell? ⟨g,o+k*17+16,none⟩=some (.slice al nl cl):=(hb.cell (p:=⟨g,_,none⟩) hg).trans (bh 16 (by omega));have ZN:=aa (lr.below hb);have HR:=aa hr;have HGT:=aa (show g<wr.heap.size from gU hg hb.size);clear lr bh hb hr;have HN4:=aa (And.intro IE (And.intro tJ (And.intro XD IA)));clear IE tJ XD IA;go_upto_region 6 with(refine ay rfl 46 (.tmp 7) (.tmp 14) rfl wr.heap.size _ rfl rfl (aK.new _ _ _) aQ rfl rfl ?_)
    intro W' hz jw;go_upto_region 6 with(fail)
    have hbW:Below wr.heap.size wr W':=fF ((aV wr.heap.size wr).alloc (aS _) _) jw (by simp) (aS _);obtain⟨av,cv,hv⟩:=hI.out.own.sl;subst hv;have HZ:=aa hz;have HI:Hid (WN w.heap.size w rs k s deep (.slice av s.length cv) W'):=aa {hI.out with own:=hI.out.own.below hbW,below:=hI.out.below.trans (hbW.mono hI.out.below.size)};have HLW:=aa (ZN.out.below hbW);have HCW:Hid (∀j (hj:j<rs.length),W'.cell? ⟨g,o+j*17,none⟩=some (.int .i64 rs[j].kind)):=aa fun j hj=>by
     obtain⟨g',o',he,_,Zt,_,_,_,_,_,vO⟩:=HC.out j hj;cases he;exact((hI.out.below.trans (hbW.mono hI.out.below.size)).cell (p:=⟨g,_,none⟩) Zt).trans (vO 0 (by omega))
    clear hz jw hbW;clear c0 c1 c2 c3 c4 c5 c6 c7 c8 c9 P4 P5 c12 P6 P7 Ox Oy;by_cases hA:0<k∧s=[]
    ·obtain⟨ZB,rfl⟩:=hA;have p2:((0:Int)<(k:Int))=True:=aA (by omega);have HP:=aa (jg.no (w:=w) (HI.out.full ax ZB) HI.out.below);clear hI;go_wp2_with fail;go_ret2;exact HP.out
    ·have hs:k=0∨s≠[]:=by
      rcases jS k with h0|h0
      ·exact .inl h0
      ·exact .inr fun e=>hA ⟨h0,e⟩
     have qJ:=aa hs;have Bx:=aa (hS W' r _ _ _ _ (HLW.out.lo (dQ _)) (xB.out r (by rw[HR.out];exact jz ax)) (xx.out W' HI.out.below));have pz:(k=0∧((0:Int)<(k:Int))=False∧(0<k)=False)∨(((0:Int)<(k:Int))=True∧(0<k)=True∧((s.length:Int)==0)=false∧(s.length=0)=False):=by
      rcases jS k with h0|h0
      ·exact .inl ⟨h0,bU (by omega),bU (by omega)⟩
      ·have bZ:=hs.resolve_left (by omega);have:0<s.length:=Ez.2 bZ;exact .inr ⟨aA (by omega),aA (by omega),by rw[bN];omega,bU (by omega)⟩
     clear hA hs hI;have pz2:(((0:Int)<(k:Int))=False∧(0<k)=False)∨(((0:Int)<(k:Int))=True∧(0<k)=True∧((s.length:Int)==0)=false∧(s.length=0)=False):=pz.elim (fun h=>.inl h.2) .inr;clear pz;go_cut [33]from 15 to 33 (fun t33 wx=> ∃b,t33= .bool b∧Hid ((b=true→dC rs=false)∧(b=false→az r=true∧nk r≤rs.length)∧Below W'.heap.size W' wx))
     case first=>
      as_aux_lemma=>
       have e0:W'.cell? ⟨wr.heap.size,0,none⟩=some (.int .i64 r.kind):=HZ.out.cell 0;have e1:W'.cell? ⟨wr.heap.size,1,none⟩=some (.int .i64 r.kids):=HZ.out.cell 1;have e2:W'.cell? ⟨wr.heap.size,2,none⟩=some (.string r.op):=HZ.out.cell 2;have e3:W'.cell? ⟨wr.heap.size,3,none⟩=some (.string r.text):=HZ.out.cell 3;have e4:W'.cell? ⟨wr.heap.size,4,none⟩=some (.slice am nm cm):=HZ.out.cell 4;have e5:W'.cell? ⟨wr.heap.size,5,none⟩=some (.string r.bV):=HZ.out.cell 5;have e6:W'.cell? ⟨wr.heap.size,6,none⟩=some (.string r.step):=HZ.out.cell 6;have e7:W'.cell? ⟨wr.heap.size,7,none⟩=some (.string r.off):=HZ.out.cell 7;have e8:W'.cell? ⟨wr.heap.size,8,none⟩=some (.string r.tim):=HZ.out.cell 8;have e9:W'.cell? ⟨wr.heap.size,9,none⟩=some (.bool r.bool):=HZ.out.cell 9;have LM:W'.cell? ⟨wr.heap.size,10,none⟩=some (.bool r.given):=HZ.out.cell 10;have e11:W'.cell? ⟨wr.heap.size,11,none⟩=some (.bool r.on):=HZ.out.cell 11;have e12:W'.cell? ⟨wr.heap.size,12,none⟩=some (.slice tu no co):=HZ.out.cell 12;have e13:W'.cell? ⟨wr.heap.size,13,none⟩=some (.int .i64 r.card):=HZ.out.cell 13;have e14:W'.cell? ⟨wr.heap.size,14,none⟩=some (.slice ai ni ci):=HZ.out.cell 14;have e15:W'.cell? ⟨wr.heap.size,15,none⟩=some (.bool r.without):=HZ.out.cell 15;have Wy:W'.cell? ⟨wr.heap.size,16,none⟩=some (.slice al nl cl):=HZ.out.cell 16;by_cases zW:az r=true
       ·have hnk:=wX zW;rw[zW]at Bx;have SZ:=aa zW;have HNK:=aa hnk;clear zW hnk;have pk:((((rs.length:Int)<(nk r:Int))=False)∧nk r≤rs.length)∨((((rs.length:Int)<(nk r:Int))=True)∧rs.length<nk r):=by
         by_cases h:nk r≤rs.length
         ·exact .inl ⟨bU (by omega),h⟩
         ·exact .inr ⟨aA (by omega),by omega⟩
        rcases pk with⟨p4,vz⟩|⟨p4,vz⟩
        ·have HK4:=aa vz;clear vz;rcases pz2 with⟨p2,p6⟩|⟨p2,p6,p3,p5⟩
         all_goals
          go_wp2_with ((go_at_call 60;refine Bx.out.mono ?_;rintro e W2 ⟨rfl,aN⟩;have y1:W2.cell? ⟨wr.heap.size,1,none⟩=some (.int .i64 (nk r:Int)):=(aN.cell (p:=⟨wr.heap.size,1,none⟩) HZ.out.lt).trans ((HZ.out.cell 1).trans (by rw[←HNK.out];rfl));have bC:=aa aN;clear aN));go_meet;exact⟨false,rfl,aa ⟨(fun h=>by cases h),fun _=>⟨SZ.out,HK4.out⟩,bC.out⟩⟩
        ·have HP:=aa (Y3 ax (by rw[←HR.out];exact vz));clear vz;rcases pz2 with⟨p2,p6⟩|⟨p2,p6,p3,p5⟩
         all_goals
          go_wp2_with ((go_at_call 60;refine Bx.out.mono ?_;rintro e W2 ⟨rfl,aN⟩;have y1:W2.cell? ⟨wr.heap.size,1,none⟩=some (.int .i64 (nk r:Int)):=(aN.cell (p:=⟨wr.heap.size,1,none⟩) HZ.out.lt).trans ((HZ.out.cell 1).trans (by rw[←HNK.out];rfl));have bC:=aa aN;clear aN));go_meet;exact⟨true,rfl,aa ⟨fun _=>HP.out,(fun h=>by cases h),bC.out⟩⟩
       ·have hsf:az r=false:=by cases h:az r with|false=>rfl|true=>exact absurd h zW
        rw[hsf]at Bx;have HP:=aa (CZ ax (by rw[←HR.out];exact hsf));clear zW hsf;rcases pz2 with⟨p2,p6⟩|⟨p2,p6,p3,p5⟩
        all_goals
         go_wp2_with ((go_at_call 60;refine Bx.out.mono ?_;rintro e W2 ⟨rfl,aN⟩;have bC:=aa aN;clear aN));go_meet;exact⟨true,rfl,aa ⟨fun _=>HP.out,(fun h=>by cases h),bC.out⟩⟩
     case rest=>
      as_aux_lemma=>
       obtain⟨bb,rfl,hH⟩:=hcut;cases bb with
       |true=>
        have HP:=aa (jg.no (w:=w) (hH.out.1 rfl) (HI.out.below.trans (hH.out.2.2.mono HI.out.below.size)));clear hH;go_wp2_with fail;go_ret2;exact HP.out
       |false=>
        have HH:=aa (hH.out.2.1 rfl);have HBC:=aa hH.out.2.2;have WQ:Hid (WN w.heap.size w rs k s deep (.slice av s.length cv) wc):=aa {HI.out with own:=HI.out.own.below HBC.out,below:=HI.out.below.trans (HBC.out.mono HI.out.below.size)};have f0:wc.cell? ⟨wr.heap.size,0,none⟩=some (.int .i64 r.kind):=(HBC.out.cell (p:=⟨wr.heap.size,0,none⟩) HZ.out.lt).trans (HZ.out.cell 0);have f1:wc.cell? ⟨wr.heap.size,1,none⟩=some (.int .i64 (nk r:Int)):=(HBC.out.cell (p:=⟨wr.heap.size,1,none⟩) HZ.out.lt).trans ((HZ.out.cell 1).trans (by rw[←wX HH.out.1];rfl));have HNX:Hid (∀j (hj:j<rs.length),wc.cell? ⟨g,o+j*17,none⟩=some (.int .i64 rs[j].kind)):=aa fun j hj=>(HBC.out.cell (p:=⟨g,_,none⟩) (by
         have h1:=HCW.out j hj;have h2:=HGT.out;have h3:=HZ.out.lt;show g<W'.heap.size;omega)).trans (HCW.out j hj)
        clear hH;have pn:((k:Int)+1=(rs.length:Int))∨k+1<rs.length:=by omega
        go_upto_region 8 with(fail)
        go_cut [52]from 34 to 52 (fun t52 wx=> ∃b,t52= .bool b∧wx=wc∧Hid ((b=true→dC rs=false)∧(b=false→(!decide (r.kind=4)||iw (rs.drop (k+1)))=true)))
        case first=>
         as_aux_lemma=>
          by_cases vz:r.kind=4
          ·have q4:(r.kind==4)=true:=by simp[vz]
           have HK4:=aa vz;clear vz;rcases pn with pe|pl
           ·have HP:=aa (Cj ax (by rw[←HR.out];exact HK4.out) (Le (by omega)));have q5:((k:Int)+1==(rs.length:Int))=true:=by rw[cC];exact pe
            clear pe;go_wp2_with fail;go_meet;exact⟨true,rfl,rfl,aa ⟨fun _=>HP.out,(fun h=>by cases h)⟩⟩
           ·have q5:((k:Int)+1==(rs.length:Int))=false:=by rw[bN];omega
            have nx:=HNX.out (k+1) pl;have q6:((k:Int)+1<(rs.length:Int))=True:=aA (by omega);by_cases h3:rs[k+1].kind=3
            ·have HP:Hid ((!decide (r.kind=4)||iw (rs.drop (k+1)))=true):=aa (by rw[u9 pl,h3];simp);have q7:(rs[k+1].kind==3)=true:=by simp[h3]
             have q8:(rs[k+1].kind != 3)=false:=by simp[h3]
             clear h3;generalize rs[k+1].kind=nkd at nx q7 q8;go_wp2_with fail;go_meet;exact⟨false,rfl,rfl,aa ⟨(fun h=>by cases h),fun _=>HP.out⟩⟩
            ·have HP:=aa (Cj ax (by rw[←HR.out];exact HK4.out) (by rw[u9 pl];exact gA h3));have q7:(rs[k+1].kind==3)=false:=by simpa using h3
             have q8:(rs[k+1].kind != 3)=true:=by simpa using h3
             clear h3;generalize rs[k+1].kind=nkd at nx q7 q8;go_wp2_with fail;go_meet;exact⟨true,rfl,rfl,aa ⟨fun _=>HP.out,(fun h=>by cases h)⟩⟩
          ·have q4:(r.kind==4)=false:=by simpa using vz
           have HP:Hid ((!decide (r.kind=4)||iw (rs.drop (k+1)))=true):=aa (by simp[vz]);clear vz pn;go_wp2_with fail;go_meet;exact⟨false,rfl,rfl,aa ⟨(fun h=>by cases h),fun _=>HP.out⟩⟩
        case rest=>
         as_aux_lemma=>
          obtain⟨b2,rfl,rfl,hG⟩:=hcut;cases b2 with
          |true=>
           have HP:=aa (jg.no (w:=w) (hG.out.1 rfl) WQ.out.below);clear hG;go_wp2_with fail;go_ret2;exact HP.out
          |false=>
           have HRN:=aa (hG.out.2 rfl);clear hG pn;have xM:Hid (wc.ownsRow w.heap.size 3 1 (.slice av s.length cv) s.length (s.reverse.map tB)):=aa WQ.out.own;have hsl:s.length≤1048576:=by have:=WQ.out.Oh;omega
           go_wp2_with ((at_builtin;refine ir rfl (.tmp 53) (.tmp 56) 33 rfl w.heap.size 3 (.int .i64 0) 1 8 Ca underlying33 rfl (by decide) _ _ _ rfl xM.out [.int .i64 (nk r:Int)] rfl rfl (zZ rfl) (by unfold maxLen;omega) (by omega) WQ.out.below.size ?_));intro v2 W5 aL jw;have pc:=aa (WQ.out.below.grown jw WQ.out.below.size (fun q hq=>(xM.out.lt q hq).1));have HO5:Hid (dL w.heap.size W5 v2 (nk r::s)):=aa (dL.push (by rw[←List.map_reverse]at aL;exact aL));obtain⟨a5,c5,hv5⟩:=HO5.out.sl;subst hv5;simp only[dZ]at HO5 ⊢
           have HM:Hid (max (deep:Int) ((s.length:Int)+1)=((max deep (s.length+1):Nat):Int)):=aa (by omega);clear aL jw f0 f1 xM;go_wp2_with fail;go_loopw [4] (fun t4 wx=> ∃s':List Nat,Hid (norm s'=norm (nk r::s)∧(∀c∈s'.tail,0<c)∧dL w.heap.size wx t4 s'∧Below w.heap.size w wx∧s'.length≤1048577∧ ∀c∈s',c≤rs.length)) (fun t4 _=>rT t4)
           case atStart=>exact⟨nk r::s,aa ⟨rfl,WQ.out.all,HO5.out,pc.out,by simp only[dZ];omega,fun c hc=>(gB.1 hc).elim (fun e=>e▸HH.out.2) (WQ.out.kids c)⟩⟩
           case round=>
            as_aux_lemma=>
             obtain⟨s',hJ⟩:=hrel;obtain⟨a6,c6,hv6⟩:=hJ.out.2.2.1.sl;subst hv6;have Tn:=hJ.out.2.2.2.2.1;cases s' with
             |nil=>
              have HE:Hid (WN w.heap.size w rs (k+1) [] (max deep (s.length+1)) (.slice a6 0 c6) wr):=aa (WQ.out.next ax HR.out qJ.out HH.out.1 HRN.out HH.out.2 (by rw[←hJ.out.1,fT]) hJ.out.2.2.1 hJ.out.2.2.2.1);simp only[nW];clear Tn hJ;go_wp2_with fail;exact⟨⟨k+1,[],max deep (s.length+1),by go_num,by rw[←HM.out],HE⟩,gN ax⟩
             |cons x t=>
              have OQ:=hJ.out.2.2.1.form;obtain⟨g6,c7,h6,SO,hg6⟩:=OQ.resolve_left (fun h=>by cases h.2);injection h6 with e1 e2 e3
              subst e1 e3;have DU:=hJ.out.2.2.1.top;have uH:=hJ.out.2.2.1.cap;have m1:=DU.1;have m2:=DU.2;simp only[dZ]at Tn uH ⊢
              have Sl:=hJ.out.2.2.2.2.2 x (by simp);by_cases hx:x=0
              ·subst hx;have Ql:=hJ.out.2.2.1.pop rfl;cases t with
               |nil=>
                have HE:Hid (norm ([]:List Nat)=norm (nk r::s)∧(∀c∈([]:List Nat).tail,0<c)∧dL w.heap.size wr (.slice (some ⟨g6,0,none⟩) 0 c6) []∧Below w.heap.size w wr∧([]:List Nat).length≤1048577∧ ∀c∈([]:List Nat),c≤rs.length):=aa ⟨by rw[←hJ.out.1,lj,fT],(fun c h=>by cases h),Ql,hJ.out.2.2.2.1,by simp,(fun c h=>by cases h)⟩;simp only[nW,kP]at m1 m2 Tn ⊢
                clear hJ OQ DU Ql;go_wp2_with fail;exact⟨⟨[],HE⟩,by simp[rT]⟩
               |cons y t2=>
                have hy:=hJ.out.2.1 y (by simp);have hyl:=hJ.out.2.2.2.2.2 y (by simp);have hd:=Ql.dec (y-1);have n1:=Ql.top.1;have n2:=Ql.top.2;have HE:Hid (norm ((y-1)::t2)=norm (nk r::s)∧(∀c∈((y-1)::t2).tail,0<c)∧dL w.heap.size (wr.setCell ⟨g6,t2.length,none⟩ (.int .i64 ((y-1:Nat):Int))) (.slice (some ⟨g6,0,none⟩) (t2.length+1) c6) ((y-1)::t2)∧Below w.heap.size w (wr.setCell ⟨g6,t2.length,none⟩ (.int .i64 ((y-1:Nat):Int)))∧((y-1)::t2).length≤1048577∧ ∀c∈(y-1)::t2,c≤rs.length):=aa ⟨by rw[←hJ.out.1,jm],fun c hc=>hJ.out.2.1 c (by simp at hc ⊢;exact .inr hc),hd,hJ.out.2.2.2.1.setCell (p:=⟨g6,_,none⟩) SO _,by simp only[dZ]at Tn ⊢;omega,fun c hc=>(gB.1 hc).elim (fun e=>by omega) (fun h=>hJ.out.2.2.2.2.2 c (by simp[h]))⟩;have HY:Hid ((y:Int)-1=((y-1:Nat):Int)):=aa (by omega);simp only[dZ]at m1 m2 Tn uH ⊢
                clear hJ OQ DU Ql hd;go_wp2_with fail;rw[HY.out];exact⟨⟨(y-1)::t2,HE⟩,by simp[rT]⟩
              ·have q1:((x:Int)==0)=false:=by rw[bN];omega
               have HE:Hid (WN w.heap.size w rs (k+1) (x::t) (max deep (s.length+1)) (.slice (some ⟨g6,0,none⟩) (t.length+1) c6) wr):=aa (WQ.out.next ax HR.out qJ.out HH.out.1 HRN.out HH.out.2 (by rw[←hJ.out.1,lk t (by omega)]) hJ.out.2.2.1 hJ.out.2.2.2.1);clear hJ OQ DU hx;go_wp2_with fail;exact⟨⟨k+1,x::t,max deep (s.length+1),by go_num,by rw[←HM.out],HE⟩,gN ax⟩
   ·have uv:k=rs.length:=by have:=hI.out.le;omega
    have p1:((k:Int)<(rs.length:Int))=False:=bU (by omega);obtain⟨av,cv,hv⟩:=hI.out.own.sl;subst hv;have fO:rs.take k=rs:=by rw[uv];exact qO
    have XE:dC rs=(decide (0<rs.length)&&decide (s.length=0)):=by
     have h1:=hI.out.Ma;rw[uv,List.drop_length,qO]at h1;have h2:=hI.out.sh.done;rw[fO]at h2;rw[Fj h1,h2]
     congr 1
     ·cases rs<;>simp
     ·cases s<;>simp
    have Δ:(deep:Int)=((ie rs:Nat):Int):=by
     have h3:=hI.out.sh.ie;rw[fO]at h3;rw[h3]
    have HP:=aa (And.intro XE (And.intro Δ hI.out.below));clear XE Δ fO hI uv;by_cases h0:rs.length=0
    ·have q1:((0:Int)<(rs.length:Int))=False:=bU (by omega);have q2:(0<rs.length)=False:=bU (by omega);go_wp2_with fail;go_ret2;exact⟨_,false,rfl,by rw[HP.out.1];simp[h0],(fun h=>by cases h),HP.out.2.2⟩
    ·have q1:((0:Int)<(rs.length:Int))=True:=aA (by omega);have q2:(0<rs.length)=True:=aA (by omega);by_cases tn:s.length=0
     ·have q3:((s.length:Int)==0)=true:=by rw[cC];omega
      have HT:Hid (dC rs=true):=aa (by rw[HP.out.1];simp[tn];omega);clear h0;go_wp2_with fail;go_ret2;exact⟨_,true,rfl,HT.out.symm,fun _=>HP.out.2.1,HP.out.2.2⟩
     ·have q3:((s.length:Int)==0)=false:=by rw[bN];omega
      have HT:Hid (dC rs=false):=aa (by rw[HP.out.1];simp[tn]);clear h0;go_wp2_with fail;go_ret2;exact⟨_,false,rfl,HT.out.symm,(fun h=>by cases h),HP.out.2.2⟩
