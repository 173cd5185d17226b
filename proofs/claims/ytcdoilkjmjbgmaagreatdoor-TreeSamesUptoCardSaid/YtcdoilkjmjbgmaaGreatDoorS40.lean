import Derived.Test.YtcdoilkjmjbgmaaGreatDoorS31
/- Part of the proof of YtcdoilkjmjbgmaaGreatDoorCardY: TrY. -/
set_option maxRecDepth 100000
set_option maxHeartbeats 4000000
set_option linter.unusedVariables false
set_option linter.unusedSimpArgs false
namespace Go.Proofs.YtcdoilkjmjbgmaaGreatDoor
open Go.RowKit
open Go.Proofs.Tryz
variable {w w' W:World} {rs:List PR} {b k deep:Nat} {s:List Nat} {v:Value} {r:PR} {T:Nat→World→Prop}
def iW (w:World) (rs:List PR) (e:Ending) (w':World):Prop:= ∃(d:Int) (ok:Bool),e= .returned (.tuple #[.int .i64 d,.bool ok])∧ok=dB rs∧(ok=true→d=(iD rs:Nat))∧Below w.heap.size w w'
theorem iW.no (h:dB rs=false) (hb:Below w.heap.size w w'):iW w rs (.returned (.tuple #[.int .i64 0,.bool false])) w':=⟨0,false,rfl,h.symm,(fun h=>by cases h),hb⟩
theorem wB (h:trees 1 rs=false∨rs.all aC=false∨dc rs=false):dB rs=false:=by
 unfold dB;rcases h with h|h|h<;>simp[h]
structure WN (b:Nat) (w:World) (rs:List PR) (k:Nat) (s:List Nat) (deep:Nat) (v:Value) (W:World):Prop where
 le:k≤rs.length
 sh:fp (rs.take k) s deep
 LJ:rh (rs.take k) (rs.drop k)=true
 all: ∀c∈s,0<c
 own:dK b W v s
 below:Below w.heap.size w W
 NS:s.length≤k
 agl:deep≤k
 kids: ∀c∈s,c≤rs.length
theorem WN.next (h:WN b w rs k s deep v W) (hk:k<rs.length) {r:PR} (hr:r=rs[k]) (hs:k=0∨s≠[]) (zI:aC r=true) (PH:(!decide (r.kind=4)||ig (rs.drop (k+1)))=true) (qJ:nk r≤rs.length)
  {s':List Nat} {v':Value} {W':World} (hn:s'=norm (nk r::s)) (ho:dK b W' v' s') (hb:Below w.heap.size w W'):WN b w rs (k+1) s' (max deep (s.length+1)) v' W':=by
 have ht:rs.take (k+1)=rs.take k++[r]:=by rw[jO hk,hr]
 have hd:rs.drop k=r::rs.drop (k+1):=by rw[o5 hk,hr]
 refine⟨hk,?_,?_,?_,ho,hb,?_,?_,?_⟩
 ·rw[ht,hn];exact h.sh.step r (hs.elim (fun h0=>.inl (by rw[h0];rfl)) .inr)
 ·rw[ht];exact Cq (by rw[←hd];exact h.LJ) zI PH
 ·rw[hn];exact BH _ h.all
 ·rw[hn];have:=EU (nk r::s);have h2:=h.NS;simp only[ek]at this;omega
 ·have h1:=h.NS;have h2:=h.agl;omega
 ·rw[hn];refine norm_le _ fun c hc=>?_
  rcases gL.1 hc with rfl|hc
  ·exact qJ
  ·exact h.kids c hc
theorem WN.full {b:Nat} {w:World} {rs:List PR} {k:Nat} {deep:Nat} {v:Value} {W:World} (h:WN b w rs k [] deep v W) (hk:k<rs.length) (h0:0<k):dB rs=false:=by
 refine wB (.inl ?_);rw[dU hk];exact h.sh.full (by intro e;have:=cn List.length e;rw[nO,o8]at this;omega) rfl _ _
theorem CB (hk:k<rs.length) (h:aC rs[k]=false):dB rs=false:=by
 refine wB (.inr (.inl ?_));rw[Ef];exact⟨rs[k],jj hk,by simp[h]⟩
theorem Za (hk:k<rs.length) (h:rs.length<nk rs[k]):dB rs=false:=by
 refine wB (.inl ?_);rw[dU hk];exact Cp (by rw[←dU hk];exact h)
theorem BS (hk:k<rs.length) (h4:rs[k].kind=4) (h:ig (rs.drop (k+1))=false):dB rs=false:=by
 refine wB (.inr (.inr ?_));rw[dU hk];exact GF h h4
theorem KE (h:k+1=rs.length):ig (rs.drop (k+1))=false:=by
 rw[Oc (by omega)];rfl
theorem uG (h:k+1<rs.length):ig (rs.drop (k+1))=decide (rs[k+1].kind=3):=by
 rw[o5 h];rfl
theorem wC (h:aC r=true):r.kids=(nk r:Int):=by
 have h1:du r.kind r.kids=true:=by
  unfold aC at h;simp only[kH]at h;exact h.1.1
 have h2:0≤r.kids:=by
  unfold du at h1
  repeat' split at h1
  all_goals simp at h1
  all_goals omega
 unfold nk;omega
theorem KF (hT:pv (fun _=>True) T) (hS:T4 T) {b:Nat} {w:World} {v:Value} {rs:List PR} (h:jr b w v rs) (hlen:rs.length≤1048576) (o3: ∀r∈rs,ju r) (kp:T w.heap.size w):
  Calls prog 31 #[v] w (iW w rs):=by
 obtain⟨ao,c,rfl,hc⟩:=h;have HC:=ae hc;have sR:=ae o3;have xb:Hid (∀W,Below w.heap.size w W→T W.heap.size W):=ae fun W hb=>hT.mono (hT.fQ kp hb) hb.size
 clear hc o3 kp;go_enter func31,ntmps31;go_wp2_with fail;go_loopw [4,5,10] (fun t4 t5 t10 wr=> ∃(k:Nat) (s:List Nat) (deep:Nat),t10= .int .i64 (k:Int)∧t5= .int .i64 (deep:Int)∧Hid (WN w.heap.size w rs k s deep t4 wr)) (fun _ _ t10 _=>rs.length-(intOf t10).toNat)
 case atStart=>exact⟨0,[],0,rfl,rfl,ae ⟨aV _,fp.start,by simp[rh],(fun c h=>by cases h),dK.nil _ _,aU _ _,aV _,aV _,(fun c h=>by cases h)⟩⟩
 case round=>
  as_aux_lemma=>
   obtain⟨k,s,deep,rfl,rfl,hI⟩:=hrel;by_cases aA:k<rs.length
   ·have p1:((k:Int)<(rs.length:Int))=True:=aD (by omega);obtain⟨g,o,rfl,hbg,hg,vm,vo,vi,vl,lg,bf⟩:=HC.out k aA;have hb:=hI.out.below;obtain⟨r,hr⟩: ∃r,r=rs[k]:=⟨_,rfl⟩;rw[←hr]at lg;obtain⟨⟨am,cm,rfl,_⟩,⟨uY,co,rfl,_⟩,⟨ai,ci,rfl,_⟩,⟨al,cl,rfl,_⟩⟩:=id lg;obtain⟨nm,XB⟩: ∃n,n=r.ms.length:=⟨_,rfl⟩;obtain⟨no,ti⟩: ∃n,n=r.mls.length:=⟨_,rfl⟩;obtain⟨ni,XC⟩: ∃n,n=r.inc.length:=⟨_,rfl⟩;obtain⟨nl,Lv⟩: ∃n,n=r.labels.length:=⟨_,rfl⟩;rw[←XB,←ti,←XC,←Lv]at lg;rw[←hr]at bf;rw[←XB,←ti,←XC,←Lv]at bf;have c0:wr.cell? ⟨g,o+k*17,none⟩=some (.int .i64 r.kind):=(hb.cell (p:=⟨g,_,none⟩) hg).trans (bf 0 (by omega));have c1:wr.cell? ⟨g,o+k*17+1,none⟩=some (.int .i64 r.kids):=(hb.cell (p:=⟨g,_,none⟩) hg).trans (bf 1 (by omega));have c2:wr.cell? ⟨g,o+k*17+2,none⟩=some (.string r.op):=(hb.cell (p:=⟨g,_,none⟩) hg).trans (bf 2 (by omega));have c3:wr.cell? ⟨g,o+k*17+3,none⟩=some (.string r.text):=(hb.cell (p:=⟨g,_,none⟩) hg).trans (bf 3 (by omega));have c4:wr.cell? ⟨g,o+k*17+4,none⟩=some (.slice am nm cm):=(hb.cell (p:=⟨g,_,none⟩) hg).trans (bf 4 (by omega));have c5:wr.cell? ⟨g,o+k*17+5,none⟩=some (.string r.bU):=(hb.cell (p:=⟨g,_,none⟩) hg).trans (bf 5 (by omega));have c6:wr.cell? ⟨g,o+k*17+6,none⟩=some (.string r.step):=(hb.cell (p:=⟨g,_,none⟩) hg).trans (bf 6 (by omega));have c7:wr.cell? ⟨g,o+k*17+7,none⟩=some (.string r.off):=(hb.cell (p:=⟨g,_,none⟩) hg).trans (bf 7 (by omega));have c8:wr.cell? ⟨g,o+k*17+8,none⟩=some (.string r.tim):=(hb.cell (p:=⟨g,_,none⟩) hg).trans (bf 8 (by omega));have c9:wr.cell? ⟨g,o+k*17+9,none⟩=some (.bool r.bool):=(hb.cell (p:=⟨g,_,none⟩) hg).trans (bf 9 (by omega));have PC:wr.cell? ⟨g,o+k*17+10,none⟩=some (.bool r.given):=(hb.cell (p:=⟨g,_,none⟩) hg).trans (bf 10 (by omega));have PD:wr.cell? ⟨g,o+k*17+11,none⟩=some (.bool r.on):=(hb.cell (p:=⟨g,_,none⟩) hg).trans (bf 11 (by omega));have c12:wr.cell? ⟨g,o+k*17+12,none⟩=some (.slice uY no co):=(hb.cell (p:=⟨g,_,none⟩) hg).trans (bf 12 (by omega));have PE:wr.cell? ⟨g,o+k*17+13,none⟩=some (.int .i64 r.card):=(hb.cell (p:=⟨g,_,none⟩) hg).trans (bf 13 (by omega));have PF:wr.cell? ⟨g,o+k*17+14,none⟩=some (.slice ai ni ci):=(hb.cell (p:=⟨g,_,none⟩) hg).trans (bf 14 (by omega));have NY:wr.cell? ⟨g,o+k*17+15,none⟩=some (.bool r.without):=(hb.cell (p:=⟨g,_,none⟩) hg).trans (bf 15 (by omega));have NZ:wr.cell? ⟨g,o+k*17+16,none⟩=some (.slice al nl cl):=(hb.cell (p:=⟨g,_,none⟩) hg).trans (bf 16 (by omega));have ZT:=ae (lg.below hb);have HR:=ae hr;have HGT:=ae (show g<wr.heap.size from iv hg hb.size);clear lg bf hb hr;have HN4:=ae (And.intro XB (And.intro ti (And.intro XC Lv)));clear XB ti XC Lv;go_upto_region 6 with(refine ax rfl 46 (.tmp 7) (.tmp 14) rfl wr.heap.size _ rfl rfl (aM.new _ _ _) aL rfl rfl ?_)
    intro W' hz jm;go_upto_region 6 with(fail)
    have hbW:Below wr.heap.size wr W':=ef ((aU wr.heap.size wr).alloc (aS _) _) jm (by simp) (aS _);obtain⟨av,cv,hv⟩:=hI.out.own.sl;subst hv;have HZ:=ae hz;have HI:Hid (WN w.heap.size w rs k s deep (.slice av s.length cv) W'):=ae {hI.out with own:=hI.out.own.below hbW,below:=hI.out.below.trans (hbW.mono hI.out.below.size)};have HLW:=ae (ZT.out.below hbW);have HCW:Hid (∀j (hj:j<rs.length),W'.cell? ⟨g,o+j*17,none⟩=some (.int .i64 rs[j].kind)):=ae fun j hj=>by
     obtain⟨g',o',he,_,Sq,_,_,_,_,_,vp⟩:=HC.out j hj;cases he;exact((hI.out.below.trans (hbW.mono hI.out.below.size)).cell (p:=⟨g,_,none⟩) Sq).trans (vp 0 (by omega))
    clear hz jm hbW;clear c0 c1 c2 c3 c4 c5 c6 c7 c8 c9 PC PD c12 PE PF NY NZ;by_cases hA:0<k∧s=[]
    ·obtain⟨ZM,rfl⟩:=hA;have p2:((0:Int)<(k:Int))=True:=aD (by omega);have HP:=ae (iW.no (w:=w) (HI.out.full aA ZM) HI.out.below);clear hI;go_wp2_with fail;go_ret2;exact HP.out
    ·have hs:k=0∨s≠[]:=by
      rcases jL k with h0|h0
      ·exact .inl h0
      ·exact .inr fun e=>hA ⟨h0,e⟩
     have qx:=ae hs;have Bj:=ae (hS W' r _ _ _ _ (HLW.out.lo (aV _)) (sR.out r (by rw[HR.out];exact jj aA)) (xb.out W' HI.out.below));have pz:(k=0∧((0:Int)<(k:Int))=False∧(0<k)=False)∨(((0:Int)<(k:Int))=True∧(0<k)=True∧((s.length:Int)==0)=false∧(s.length=0)=False):=by
      rcases jL k with h0|h0
      ·exact .inl ⟨h0,bT (by omega),bT (by omega)⟩
      ·have bW:=hs.resolve_left (by omega);have:0<s.length:=Ec.2 bW;exact .inr ⟨aD (by omega),aD (by omega),by rw[bN];omega,bT (by omega)⟩
     clear hA hs hI;have pz2:(((0:Int)<(k:Int))=False∧(0<k)=False)∨(((0:Int)<(k:Int))=True∧(0<k)=True∧((s.length:Int)==0)=false∧(s.length=0)=False):=pz.elim (fun h=>.inl h.2) .inr;clear pz;go_cut [33]from 15 to 33 (fun t33 wx=> ∃b,t33= .bool b∧Hid ((b=true→dB rs=false)∧(b=false→aC r=true∧nk r≤rs.length)∧Below W'.heap.size W' wx))
     case first=>
      as_aux_lemma=>
       have e0:W'.cell? ⟨wr.heap.size,0,none⟩=some (.int .i64 r.kind):=HZ.out.cell 0;have e1:W'.cell? ⟨wr.heap.size,1,none⟩=some (.int .i64 r.kids):=HZ.out.cell 1;have e2:W'.cell? ⟨wr.heap.size,2,none⟩=some (.string r.op):=HZ.out.cell 2;have e3:W'.cell? ⟨wr.heap.size,3,none⟩=some (.string r.text):=HZ.out.cell 3;have e4:W'.cell? ⟨wr.heap.size,4,none⟩=some (.slice am nm cm):=HZ.out.cell 4;have e5:W'.cell? ⟨wr.heap.size,5,none⟩=some (.string r.bU):=HZ.out.cell 5;have e6:W'.cell? ⟨wr.heap.size,6,none⟩=some (.string r.step):=HZ.out.cell 6;have e7:W'.cell? ⟨wr.heap.size,7,none⟩=some (.string r.off):=HZ.out.cell 7;have e8:W'.cell? ⟨wr.heap.size,8,none⟩=some (.string r.tim):=HZ.out.cell 8;have e9:W'.cell? ⟨wr.heap.size,9,none⟩=some (.bool r.bool):=HZ.out.cell 9;have Lt:W'.cell? ⟨wr.heap.size,10,none⟩=some (.bool r.given):=HZ.out.cell 10;have e11:W'.cell? ⟨wr.heap.size,11,none⟩=some (.bool r.on):=HZ.out.cell 11;have e12:W'.cell? ⟨wr.heap.size,12,none⟩=some (.slice uY no co):=HZ.out.cell 12;have e13:W'.cell? ⟨wr.heap.size,13,none⟩=some (.int .i64 r.card):=HZ.out.cell 13;have e14:W'.cell? ⟨wr.heap.size,14,none⟩=some (.slice ai ni ci):=HZ.out.cell 14;have e15:W'.cell? ⟨wr.heap.size,15,none⟩=some (.bool r.without):=HZ.out.cell 15;have WG:W'.cell? ⟨wr.heap.size,16,none⟩=some (.slice al nl cl):=HZ.out.cell 16;by_cases zI:aC r=true
       ·have hnk:=wC zI;rw[zI]at Bj;have XD:=ae zI;have HNK:=ae hnk;clear zI hnk;have pk:((((rs.length:Int)<(nk r:Int))=False)∧nk r≤rs.length)∨((((rs.length:Int)<(nk r:Int))=True)∧rs.length<nk r):=by
         by_cases h:nk r≤rs.length
         ·exact .inl ⟨bT (by omega),h⟩
         ·exact .inr ⟨aD (by omega),by omega⟩
        rcases pk with⟨p4,u4⟩|⟨p4,u4⟩
        ·have HK4:=ae u4;clear u4;rcases pz2 with⟨p2,p6⟩|⟨p2,p6,p3,p5⟩
         all_goals
          go_wp2_with ((go_at_call 60;refine Bj.out.mono ?_;rintro e W2 ⟨rfl,aQ⟩;have y1:W2.cell? ⟨wr.heap.size,1,none⟩=some (.int .i64 (nk r:Int)):=(aQ.cell (p:=⟨wr.heap.size,1,none⟩) HZ.out.lt).trans ((HZ.out.cell 1).trans (by rw[←HNK.out];rfl));have bF:=ae aQ;clear aQ));go_meet;exact⟨false,rfl,ae ⟨(fun h=>by cases h),fun _=>⟨XD.out,HK4.out⟩,bF.out⟩⟩
        ·have HP:=ae (Za aA (by rw[←HR.out];exact u4));clear u4;rcases pz2 with⟨p2,p6⟩|⟨p2,p6,p3,p5⟩
         all_goals
          go_wp2_with ((go_at_call 60;refine Bj.out.mono ?_;rintro e W2 ⟨rfl,aQ⟩;have y1:W2.cell? ⟨wr.heap.size,1,none⟩=some (.int .i64 (nk r:Int)):=(aQ.cell (p:=⟨wr.heap.size,1,none⟩) HZ.out.lt).trans ((HZ.out.cell 1).trans (by rw[←HNK.out];rfl));have bF:=ae aQ;clear aQ));go_meet;exact⟨true,rfl,ae ⟨fun _=>HP.out,(fun h=>by cases h),bF.out⟩⟩
       ·have hsf:aC r=false:=by cases h:aC r with|false=>rfl|true=>exact absurd h zI
        rw[hsf]at Bj;have HP:=ae (CB aA (by rw[←HR.out];exact hsf));clear zI hsf;rcases pz2 with⟨p2,p6⟩|⟨p2,p6,p3,p5⟩
        all_goals
         go_wp2_with ((go_at_call 60;refine Bj.out.mono ?_;rintro e W2 ⟨rfl,aQ⟩;have bF:=ae aQ;clear aQ));go_meet;exact⟨true,rfl,ae ⟨fun _=>HP.out,(fun h=>by cases h),bF.out⟩⟩
     case rest=>
      as_aux_lemma=>
       obtain⟨bb,rfl,hH⟩:=hcut;cases bb with
       |true=>
        have HP:=ae (iW.no (w:=w) (hH.out.1 rfl) (HI.out.below.trans (hH.out.2.2.mono HI.out.below.size)));clear hH;go_wp2_with fail;go_ret2;exact HP.out
       |false=>
        have HH:=ae (hH.out.2.1 rfl);have ZW:=ae hH.out.2.2;have WQ:Hid (WN w.heap.size w rs k s deep (.slice av s.length cv) wc):=ae {HI.out with own:=HI.out.own.below ZW.out,below:=HI.out.below.trans (ZW.out.mono HI.out.below.size)};have f0:wc.cell? ⟨wr.heap.size,0,none⟩=some (.int .i64 r.kind):=(ZW.out.cell (p:=⟨wr.heap.size,0,none⟩) HZ.out.lt).trans (HZ.out.cell 0);have f1:wc.cell? ⟨wr.heap.size,1,none⟩=some (.int .i64 (nk r:Int)):=(ZW.out.cell (p:=⟨wr.heap.size,1,none⟩) HZ.out.lt).trans ((HZ.out.cell 1).trans (by rw[←wC HH.out.1];rfl));have HNX:Hid (∀j (hj:j<rs.length),wc.cell? ⟨g,o+j*17,none⟩=some (.int .i64 rs[j].kind)):=ae fun j hj=>(ZW.out.cell (p:=⟨g,_,none⟩) (by
         have h1:=HCW.out j hj;have h2:=HGT.out;have h3:=HZ.out.lt;show g<W'.heap.size;omega)).trans (HCW.out j hj)
        clear hH;have pn:((k:Int)+1=(rs.length:Int))∨k+1<rs.length:=by omega
        go_upto_region 8 with(fail)
        go_cut [52]from 34 to 52 (fun t52 wx=> ∃b,t52= .bool b∧wx=wc∧Hid ((b=true→dB rs=false)∧(b=false→(!decide (r.kind=4)||ig (rs.drop (k+1)))=true)))
        case first=>
         as_aux_lemma=>
          by_cases u4:r.kind=4
          ·have q4:(r.kind==4)=true:=by simp[u4]
           have HK4:=ae u4;clear u4;rcases pn with pe|pl
           ·have HP:=ae (BS aA (by rw[←HR.out];exact HK4.out) (KE (by omega)));have q5:((k:Int)+1==(rs.length:Int))=true:=by rw[cx];exact pe
            clear pe;go_wp2_with fail;go_meet;exact⟨true,rfl,rfl,ae ⟨fun _=>HP.out,(fun h=>by cases h)⟩⟩
           ·have q5:((k:Int)+1==(rs.length:Int))=false:=by rw[bN];omega
            have nx:=HNX.out (k+1) pl;have q6:((k:Int)+1<(rs.length:Int))=True:=aD (by omega);by_cases h3:rs[k+1].kind=3
            ·have HP:Hid ((!decide (r.kind=4)||ig (rs.drop (k+1)))=true):=ae (by rw[uG pl,h3];simp);have q7:(rs[k+1].kind==3)=true:=by simp[h3]
             have q8:(rs[k+1].kind != 3)=false:=by simp[h3]
             clear h3;generalize rs[k+1].kind=nkd at nx q7 q8;go_wp2_with fail;go_meet;exact⟨false,rfl,rfl,ae ⟨(fun h=>by cases h),fun _=>HP.out⟩⟩
            ·have HP:=ae (BS aA (by rw[←HR.out];exact HK4.out) (by rw[uG pl];exact gj h3));have q7:(rs[k+1].kind==3)=false:=by simpa using h3
             have q8:(rs[k+1].kind != 3)=true:=by simpa using h3
             clear h3;generalize rs[k+1].kind=nkd at nx q7 q8;go_wp2_with fail;go_meet;exact⟨true,rfl,rfl,ae ⟨fun _=>HP.out,(fun h=>by cases h)⟩⟩
          ·have q4:(r.kind==4)=false:=by simpa using u4
           have HP:Hid ((!decide (r.kind=4)||ig (rs.drop (k+1)))=true):=ae (by simp[u4]);clear u4 pn;go_wp2_with fail;go_meet;exact⟨false,rfl,rfl,ae ⟨(fun h=>by cases h),fun _=>HP.out⟩⟩
        case rest=>
         as_aux_lemma=>
          obtain⟨b2,rfl,rfl,hG⟩:=hcut;cases b2 with
          |true=>
           have HP:=ae (iW.no (w:=w) (hG.out.1 rfl) WQ.out.below);clear hG;go_wp2_with fail;go_ret2;exact HP.out
          |false=>
           have HRN:=ae (hG.out.2 rfl);clear hG pn;have FW:Hid (wc.ownsRow w.heap.size 3 1 (.slice av s.length cv) s.length (s.reverse.map s7)):=ae WQ.out.own;have hsl:s.length≤1048576:=by have:=WQ.out.NS;omega
           go_wp2_with ((at_builtin;refine ib rfl (.tmp 53) (.tmp 56) 33 rfl w.heap.size 3 (.int .i64 0) 1 8 BI underlying33 rfl (by decide) _ _ _ rfl FW.out [.int .i64 (nk r:Int)] rfl rfl (zL rfl) (by unfold maxLen;omega) (by omega) WQ.out.below.size ?_));intro v2 W5 aP jm;have mW:=ae (WQ.out.below.grown jm WQ.out.below.size (fun q hq=>(FW.out.lt q hq).1));have HO5:Hid (dK w.heap.size W5 v2 (nk r::s)):=ae (dK.push (by rw[←List.map_reverse]at aP;exact aP));obtain⟨a5,c5,hv5⟩:=HO5.out.sl;subst hv5;simp only[ek]at HO5 ⊢
           have HM:Hid (max (deep:Int) ((s.length:Int)+1)=((max deep (s.length+1):Nat):Int)):=ae (by omega);clear aP jm f0 f1 FW;go_wp2_with fail;go_loopw [4] (fun t4 wx=> ∃s':List Nat,Hid (norm s'=norm (nk r::s)∧(∀c∈s'.tail,0<c)∧dK w.heap.size wx t4 s'∧Below w.heap.size w wx∧s'.length≤1048577∧ ∀c∈s',c≤rs.length)) (fun t4 _=>rC t4)
           case atStart=>exact⟨nk r::s,ae ⟨rfl,WQ.out.all,HO5.out,mW.out,by simp only[ek];omega,fun c hc=>(gL.1 hc).elim (fun e=>e▸HH.out.2) (WQ.out.kids c)⟩⟩
           case round=>
            as_aux_lemma=>
             obtain⟨s',hJ⟩:=hrel;obtain⟨a6,c6,hv6⟩:=hJ.out.2.2.1.sl;subst hv6;have S9:=hJ.out.2.2.2.2.1;cases s' with
             |nil=>
              have HE:Hid (WN w.heap.size w rs (k+1) [] (max deep (s.length+1)) (.slice a6 0 c6) wr):=ae (WQ.out.next aA HR.out qx.out HH.out.1 HRN.out HH.out.2 (by rw[←hJ.out.1,fL]) hJ.out.2.2.1 hJ.out.2.2.2.1);simp only[o8];clear S9 hJ;go_wp2_with fail;exact⟨⟨k+1,[],max deep (s.length+1),by go_num,by rw[←HM.out],HE⟩,gF aA⟩
             |cons x t=>
              have Ou:=hJ.out.2.2.1.form;obtain⟨g6,c7,h6,NU,hg6⟩:=Ou.resolve_left (fun h=>by cases h.2);injection h6 with e1 e2 e3
              subst e1 e3;have Dv:=hJ.out.2.2.1.top;have ue:=hJ.out.2.2.1.cap;have m1:=Dv.1;have m2:=Dv.2;simp only[ek]at S9 ue ⊢
              have RZ:=hJ.out.2.2.2.2.2 x (by simp);by_cases hx:x=0
              ·subst hx;have PY:=hJ.out.2.2.1.pop rfl;cases t with
               |nil=>
                have HE:Hid (norm ([]:List Nat)=norm (nk r::s)∧(∀c∈([]:List Nat).tail,0<c)∧dK w.heap.size wr (.slice (some ⟨g6,0,none⟩) 0 c6) []∧Below w.heap.size w wr∧([]:List Nat).length≤1048577∧ ∀c∈([]:List Nat),c≤rs.length):=ae ⟨by rw[←hJ.out.1,kV,fL],(fun c h=>by cases h),PY,hJ.out.2.2.2.1,by simp,(fun c h=>by cases h)⟩;simp only[o8,mr]at m1 m2 S9 ⊢
                clear hJ Ou Dv PY;go_wp2_with fail;exact⟨⟨[],HE⟩,by simp[rC]⟩
               |cons y t2=>
                have hy:=hJ.out.2.1 y (by simp);have hyl:=hJ.out.2.2.2.2.2 y (by simp);have hd:=PY.dec (y-1);have n1:=PY.top.1;have n2:=PY.top.2;have HE:Hid (norm ((y-1)::t2)=norm (nk r::s)∧(∀c∈((y-1)::t2).tail,0<c)∧dK w.heap.size (wr.setCell ⟨g6,t2.length,none⟩ (.int .i64 ((y-1:Nat):Int))) (.slice (some ⟨g6,0,none⟩) (t2.length+1) c6) ((y-1)::t2)∧Below w.heap.size w (wr.setCell ⟨g6,t2.length,none⟩ (.int .i64 ((y-1:Nat):Int)))∧((y-1)::t2).length≤1048577∧ ∀c∈(y-1)::t2,c≤rs.length):=ae ⟨by rw[←hJ.out.1,jb],fun c hc=>hJ.out.2.1 c (by simp at hc ⊢;exact .inr hc),hd,hJ.out.2.2.2.1.setCell (p:=⟨g6,_,none⟩) NU _,by simp only[ek]at S9 ⊢;omega,fun c hc=>(gL.1 hc).elim (fun e=>by omega) (fun h=>hJ.out.2.2.2.2.2 c (by simp[h]))⟩;have HY:Hid ((y:Int)-1=((y-1:Nat):Int)):=ae (by omega);simp only[ek]at m1 m2 S9 ue ⊢
                clear hJ Ou Dv PY hd;go_wp2_with fail;rw[HY.out];exact⟨⟨(y-1)::t2,HE⟩,by simp[rC]⟩
              ·have q1:((x:Int)==0)=false:=by rw[bN];omega
               have HE:Hid (WN w.heap.size w rs (k+1) (x::t) (max deep (s.length+1)) (.slice (some ⟨g6,0,none⟩) (t.length+1) c6) wr):=ae (WQ.out.next aA HR.out qx.out HH.out.1 HRN.out HH.out.2 (by rw[←hJ.out.1,kW t (by omega)]) hJ.out.2.2.1 hJ.out.2.2.2.1);clear hJ Ou Dv hx;go_wp2_with fail;exact⟨⟨k+1,x::t,max deep (s.length+1),by go_num,by rw[←HM.out],HE⟩,gF aA⟩
   ·have uT:k=rs.length:=by have:=hI.out.le;omega
    have p1:((k:Int)<(rs.length:Int))=False:=bT (by omega);obtain⟨av,cv,hv⟩:=hI.out.own.sl;subst hv;have fH:rs.take k=rs:=by rw[uT];exact qO
    have XE:dB rs=(decide (0<rs.length)&&decide (s.length=0)):=by
     have h1:=hI.out.LJ;rw[uT,List.drop_length,qO]at h1;have h2:=hI.out.sh.done;rw[fH]at h2;rw[EW h1,h2]
     congr 1
     ·cases rs<;>simp
     ·cases s<;>simp
    have hde:(deep:Int)=((iD rs:Nat):Int):=by
     have h3:=hI.out.sh.iD;rw[fH]at h3;rw[h3]
    have HP:=ae (And.intro XE (And.intro hde hI.out.below));clear XE hde fH hI uT;by_cases h0:rs.length=0
    ·have q1:((0:Int)<(rs.length:Int))=False:=bT (by omega);have q2:(0<rs.length)=False:=bT (by omega);go_wp2_with fail;go_ret2;exact⟨_,false,rfl,by rw[HP.out.1];simp[h0],(fun h=>by cases h),HP.out.2.2⟩
    ·have q1:((0:Int)<(rs.length:Int))=True:=aD (by omega);have q2:(0<rs.length)=True:=aD (by omega);by_cases sT:s.length=0
     ·have q3:((s.length:Int)==0)=true:=by rw[cx];omega
      have HT:Hid (dB rs=true):=ae (by rw[HP.out.1];simp[sT];omega);clear h0;go_wp2_with fail;go_ret2;exact⟨_,true,rfl,HT.out.symm,fun _=>HP.out.2.1,HP.out.2.2⟩
     ·have q3:((s.length:Int)==0)=false:=by rw[bN];omega
      have HT:Hid (dB rs=false):=ae (by rw[HP.out.1];simp[sT]);clear h0;go_wp2_with fail;go_ret2;exact⟨_,false,rfl,HT.out.symm,(fun h=>by cases h),HP.out.2.2⟩
