import Derived.Test.YtcdoilkjmjbgmaaGreatDoorR37
import Derived.Test.YtcdoilkjmjbgmaaGreatDoorR45
/- Part of the proof of YtcdoilkjmjbgmaaGreatDoorCardR: TvT TvU TvW OpenR. -/
set_option maxRecDepth 100000
set_option maxHeartbeats 4000000
set_option linter.unusedVariables false
set_option linter.unusedSimpArgs false
namespace Go.Proofs.YtcdoilkjmjbgmaaGreatDoor
open Go.RowKit
open Go.Proofs.Tryz
variable {w w':World} {rs:List PR} {n k b c m z:Nat} {r:PR} {v:Value} {e:TypeId} {a:Option Addr} {xs:List Value} {T:Nat→World→Prop}
def rowsOf (rs:List PR):List PR:=if bA rs=0 then rs else[]
def gG (w:World) (rs:List PR) (e:Ending) (w':World):Prop:= ∃a n c xs,e= .returned (.tuple #[.slice a n c,.int .i64 (bA rs:Nat)])∧OR w.heap.size w' (.slice a n c) xs (rowsOf rs)∧Below w.heap.size w w'
theorem OR.lo {lo lo':Nat} {W:World} {v:Value} {xs:List WI} {rs:List PR} (h:OR lo W v xs rs) (hl:lo'≤lo):OR lo' W v xs rs:=⟨bY h.own hl,fun z hz=>⟨(h.px z hz).1.lo hl,(h.px z hz).2⟩,h.FQ,h.key⟩
theorem OR.none_ (lo:Nat) (W:World):OR lo W (.slice none 0 0) [] []:=⟨rh _ _ _ _,(fun z h=>by cases h),List.Pairwise.nil,rfl⟩
theorem gG.no (h:bA rs=n) (hn:n≠0) (hb:Below w.heap.size w w'):gG w rs (.returned (.tuple #[.slice none 0 0,.int .i64 (n:Nat)])) w':=
 ⟨none,0,0,[],by rw[h],by unfold rowsOf;rw[h,af hn];exact OR.none_ _ _,hb⟩
theorem su (h:dC rs=false):bA rs=120:=by unfold bA;rw[h];rfl
theorem Lk (h:az r=true):0≤r.kids:=by rw[wX h];omega
theorem me (h:dC rs=true):dO rs=true:=by
 obtain⟨h1,h2,_⟩:=jr h;unfold dO;rw[h1,mC,rq];exact fun r hr=>dR (Lk (rq.1 h2 r hr))
theorem Dd : ∀ (x : List PR) (n : Nat) (r : PR), trees n (x ++ [r]) = true → nk r = 0
  | [], 0, r, h => by simp [trees] at h
  | [], n + 1, r, h => by
    have:=j9.1 (show trees (nk r+n) []=true from h)
    omega
  | q :: x, 0, r, h => by simp [trees] at h
  | q :: x, n + 1, r, h => Dd x (nk q + n) r h
theorem NU (hk:k<rs.length) (ht:trees 1 rs=true) (hs:az rs[k]=true) (h4:rs[k].kind=4):k+1<rs.length:=by
 rcases dF (k+1) rs.length with h|h
 ·exact h
 ·exfalso;have h1:=dY hk;rw[OC h]at h1;rw[h1]at ht;have h2:=Dd _ _ _ ht;have h3:du rs[k].kind rs[k].kids=true:=by
   unfold az at hs;simp only[kN]at hs;exact hs.1.1
  rw[h4]at h3;simp[du]at h3;unfold nk at h2;omega
theorem RR (h:dC rs=true) (hd: ∃d∈dv rs,128<d):bA rs=3:=by
 refine CV h ?_;obtain⟨d,h1,h2⟩:=hd;unfold dv at h1;rw[au (me h)]at h1;rcases dF 128 (ie rs)with h3|h3
 ·exact h3
 ·have:=Pc.1 (show iO (aU [1] rs)≤128 from h3) d h1;omega
theorem RS (h:dC rs=true) (hd: ∀d∈dv rs,d≤128):bA rs=0:=by
 refine oQ.2 ⟨h,Pc.2 fun d h1=>hd d ?_⟩;unfold dv
 rwa [au (me h)]
theorem FM (hk:k<rs.length) {r:PR} (hr:r=rs[k]) (h:rG (rs.take k) (rs.drop k)=true) (hs:az r=true) (hn:(!decide (r.kind=4)||iw (rs.drop (k+1)))=true):rG (rs.take (k+1)) (rs.drop (k+1))=true:=by
 rw[jy hk,←hr];refine CK ?_ hs hn
 rwa [pq hk,←hr]at h
theorem RT (h:eC w v rs) (hlen:rs.length≤1048576) (po: ∀r∈rs,iZ r):
  Calls prog 8 #[v] w (gG w rs):=by
 obtain⟨ao,c,rfl,hc⟩:=id h.1;have HD:=aa (CO h.1 hlen);have HCP:Hid (∀W,Below w.heap.size w W→Calls prog 30 #[.slice ao rs.length c] W (sd W rs)):=aa fun W hb=>VR ((h.1.below hb).lo (dQ _)) (by omega) fun r hr=>(po r hr).len
 have HC:=aa hc;have xB:=aa po;clear h hc po;go_enter func8,ntmps8;go_wp2_with fail;refine HD.out.mono ?_;rintro e w1 ⟨a,n,cd,rfl,ho,hb⟩;obtain⟨rfl,_,hg⟩:=JY ho;have HO:=aa ho;have HB:=aa hb;have HG:=aa hg;clear ho hb hg HD;cases hd:dO rs with
 |false=>
  have HP:=aa (gG.no (w:=w) (w':=w1) (su (by cases h:dC rs with|false=>rfl|true=>rw[me h]at hd;cases hd)) (by decide) HB.out);generalize (dv rs).length=nd;clear hd HO HG;go_wp2_with fail;go_ret2;exact HP.out
 |true=>
  have ht:trees 1 rs=true:=by unfold dO at hd;rw[kN]at hd;exact hd.1
  have HT:=aa ht;have Wr:=aa (sj hd);have Xm:(dv rs).length≤1048576:=by rw[sj hd];exact hlen
  obtain⟨D,hD⟩: ∃D,D=dv rs:=⟨_,rfl⟩;rw[←hD]at HO HG Wr Xm ⊢
  have PS:=aa hD;clear hd ht hD;go_wp2_with fail;go_loopw [6] (fun t6 W=> ∃k:Nat,t6= .int .i64 (k:Int)∧Hid (k≤rs.length∧rG (rs.take k) (rs.drop k)=true∧Below w1.heap.size w1 W)) (fun t6 _=>rs.length-(intOf t6).toNat)
  case atStart=>exact⟨0,rfl,aa ⟨dQ _,by simp[rG],aV _ _⟩⟩
  case round=>
   obtain⟨k,rfl,hI⟩:=hrel;by_cases ax:k<rs.length
   ·have p1:((k:Int)<(rs.length:Int))=True:=aA (by omega);obtain⟨g,o,rfl,_,hg,vm,vo,vi,vl,lr,bh⟩:=HC.out k ax;obtain⟨r,hr⟩: ∃r,r=rs[k]:=⟨_,rfl⟩;rw[←hr]at lr bh;have AU:Below w.heap.size w wr:=HB.out.trans (hI.out.2.2.mono HB.out.size);have Mh:Hid (∀W,Below w.heap.size w W→Calls prog 29 #[jB r vm vo vi vl] W (aG W (az r))):=aa fun W hb=>RE (lr.below hb) (xB.out r (by rw[hr];exact jz ax))
    obtain⟨⟨am,cm,rfl,_⟩,⟨tu,co,rfl,_⟩,⟨ai,ci,rfl,_⟩,⟨al,cl,rfl,_⟩⟩:=lr;obtain⟨c0,c1,c2,c3,c4,c5,c6,c7,c8,c9,P4,P5,c12,P6,P7,Ox,Oy⟩:=wB (W:=wr) (o:=o+k*17) fun j hj=>(AU.cell (p:=⟨g,_,none⟩) hg).trans (bh j hj)
    simp only[jB]at Mh;have HK:Hid (∀W,Below w.heap.size w W→W.cell? ⟨g,o+k*17,none⟩=some (.int .i64 r.kind)):=aa fun W hb=>(hb.cell (p:=⟨g,_,none⟩) hg).trans (bh 0 (by omega))
    have AE:=aa AU;have HR:=aa hr;have HNX:Hid (∀(h:k+1<rs.length) (W:World),Below w.heap.size w W→W.cell? ⟨g,o+(k+1)*17,none⟩=some (.int .i64 rs[k+1].kind)):=aa fun h W hb=>by
     obtain⟨g',o',he,_,Zt,_,_,_,_,_,vO⟩:=HC.out (k+1) h;cases he;exact(hb.cell (p:=⟨g,_,none⟩) Zt).trans (vO 0 (by omega))
    clear bh AU hr;cases hs:az r with
    |false=>
     rw[hs]at Mh;have HP:Hid (∀W,Below w.heap.size w W→gG w rs (.returned (.tuple #[.slice none 0 0,.int .i64 (120:Nat)])) W):=aa fun W hb=>gG.no (su (CZ ax (by rw[←HR.out];exact hs))) (by decide) hb
     clear hs;go_wp2_with (go_at_call 29;(with_reducible refine(Mh.out _ AE.out).mono ?_);rintro e W1 ⟨rfl,aW⟩;have cn:=aa (AE.out.trans (aW.mono AE.out.size));clear aW);go_ret2;exact HP.out _ cn.out
    |true=>
     rw[hs]at Mh;have HS:=aa hs;clear hs;by_cases vz:r.kind=4
     ·have PE:=NU ax HT.out (by rw[←HR.out];exact HS.out) (by rw[←HR.out];exact vz);have q4:(r.kind==4)=true:=by simp[vz]
      have q6:((k:Int)+1<(rs.length:Int))=True:=aA (by omega);have HKC:=aa (HNX.out PE);have X0:=u9 PE;cases h3:decide (rs[k+1].kind=3)with
      |true=>
       have HN:=aa (FM ax HR.out hI.out.2.1 HS.out (by rw[X0,h3];simp));have q7:(rs[k+1].kind != 3)=false:=by simpa using h3
       generalize rs[k+1].kind=kn at HKC q7;clear h3 X0 vz;go_wp2_with (go_at_call 29;(with_reducible refine(Mh.out _ AE.out).mono ?_);rintro e W1 ⟨rfl,aW⟩;have cn:=aa aW;have k0:=HK.out W1 (AE.out.trans (aW.mono AE.out.size));have k3:=HKC.out W1 (AE.out.trans (aW.mono AE.out.size));clear aW);go_roundw
       case rel=>exact⟨k+1,by go_num,aa ⟨ax,HN.out,hI.out.2.2.trans (cn.out.mono hI.out.2.2.size)⟩⟩
       case measure=>simp[intOf];omega
      |false=>
       have HP:Hid (∀W,Below w.heap.size w W→gG w rs (.returned (.tuple #[.slice none 0 0,.int .i64 (120:Nat)])) W):=aa fun W hb=>gG.no (su (Cj ax (by rw[←HR.out];exact vz) (X0.trans h3))) (by decide) hb
       have q7:(rs[k+1].kind != 3)=true:=by simpa using h3
       generalize rs[k+1].kind=kn at HKC q7;clear h3 X0 vz;go_wp2_with (go_at_call 29;(with_reducible refine(Mh.out _ AE.out).mono ?_);rintro e W1 ⟨rfl,aW⟩;have cn:=aa (AE.out.trans (aW.mono AE.out.size));have k0:=HK.out W1 cn.out;have k3:=HKC.out W1 cn.out;clear aW);go_ret2;exact HP.out _ cn.out
     ·have q4:(r.kind==4)=false:=by simpa using vz
      have HN:=aa (FM ax HR.out hI.out.2.1 HS.out (by simp[vz]));clear vz;go_wp2_with (go_at_call 29;(with_reducible refine(Mh.out _ AE.out).mono ?_);rintro e W1 ⟨rfl,aW⟩;have cn:=aa aW;have k0:=HK.out W1 (AE.out.trans (aW.mono AE.out.size));clear aW);go_roundw
      case rel=>exact⟨k+1,by go_num,aa ⟨ax,HN.out,hI.out.2.2.trans (cn.out.mono hI.out.2.2.size)⟩⟩
      case measure=>simp[intOf];omega
   ·have p1:((k:Int)<(rs.length:Int))=False:=bU (by omega);obtain rfl:k=rs.length:=by have:=hI.out.1;omega
    have HSH:Hid (dC rs=true):=aa (by
     have h1:=hI.out.2.1;rw[qO,List.drop_length]at h1;rw[Fj h1];exact HT.out)
    have kt:=aa (bf HO.out (by have:=hI.out.2.2;exact this));have bC:=aa (HB.out.trans (hI.out.2.2.mono HB.out.size));obtain⟨W2,rfl⟩: ∃W2,W2=wr:=⟨_,rfl⟩;clear hI HO HB;go_wp2_with fail;go_loopw [7] (fun t7 W=> ∃j:Nat,t7= .int .i64 (j:Int)∧W=W2∧Hid (j≤D.length∧ ∀i (h:i<D.length),i<j→D[i]≤128)) (fun t7 _=>D.length-(intOf t7).toNat)
    case atStart=>exact⟨0,rfl,rfl,aa ⟨dQ _,fun i _ h=>absurd h (Nat.not_lt_zero _)⟩⟩
    case round=>
     obtain⟨j,rfl,rfl,hJ⟩:=hrel;by_cases hj:j<D.length
     ·have q1:((j:Int)<(D.length:Int))=True:=aA (by omega);obtain⟨g6,rfl⟩:=HG.out (by omega);have c0:=Fo kt.out hj;obtain⟨d,hdj⟩: ∃d,d=D[j]:=⟨_,rfl⟩;rw[←hdj]at c0;have HDJ:=aa hdj;clear hdj;by_cases To:128<d
      ·have q2:((128:Int)<(d:Int))=True:=aA (by omega);have q3:(128<d)=True:=aA To;have HP:Hid (gG w rs (.returned (.tuple #[.slice none 0 0,.int .i64 (3:Nat)])) wr):=aa (gG.no (RR HSH.out ⟨d,by rw[←PS.out,HDJ.out];exact jz hj,To⟩) (by decide) bC.out);clear To;go_wp2_with fail;go_ret2;exact HP.out
      ·have q2:((128:Int)<(d:Int))=False:=bU (by omega);have q3:(128<d)=False:=bU To;have HN:Hid (j+1≤D.length∧ ∀i (h:i<D.length),i<j+1→D[i]≤128):=aa ⟨hj,fun i h hi=>by
        by_cases Xs:i<j
        ·exact hJ.out.2 i h Xs
        ·obtain rfl:i=j:=by omega
         rw[←HDJ.out];omega⟩
       clear To hJ;go_wp2_with fail;go_roundw
       case rel=>exact⟨j+1,by go_num,by first|rfl|trivial,HN⟩
       case measure=>simp[intOf];omega
     ·have q1:((j:Int)<(D.length:Int))=False:=bU (by omega);have HE:Hid (bA rs=0):=aa (RS HSH.out fun d hd=>by
       rw[←PS.out]at hd;obtain⟨i,hi,rfl⟩:=List.mem_iff_getElem.1 hd;exact hJ.out.2 i hi (by omega))
      clear hJ;go_wp2_with fail;refine(HCP.out _ bC.out).mono ?_;intro e W3 hp;obtain⟨a3,n3,c3,xs,rfl,Qb,bW⟩:=hp.or;have HF:Hid (gG w rs (.returned (.tuple #[.slice a3 n3 c3,.int .i64 (0:Nat)])) W3):=aa ⟨a3,n3,c3,xs,by rw[HE.out],by
       unfold rowsOf;rw[au HE.out];exact Qb.lo bC.out.size,bC.out.trans (bW.mono bC.out.size)⟩
      clear hp Qb bW;go_wp2_with fail;go_ret2;exact HF.out
theorem ti (rs:List PR):(fE rs).map (·.2)=rowsOf rs:=by
 unfold rowsOf;split
 ·rename_i h;exact FL h
 ·rename_i h;unfold fE;rw[af h];rfl
theorem RU (rs:List PR):oF (fE rs)=iO (dv (rowsOf rs)):=by
 unfold rowsOf;split
 ·rename_i h;rw[Db h];unfold dv ie;rw[au (me (oQ.1 h).1)]
 ·rename_i h;unfold fE;rw[af h];rfl
theorem Kf (rs:List PR):(fE rs).length=(rowsOf rs).length:=by rw[←ti,jW]
theorem NV (rs:List PR):(rowsOf rs).length≤rs.length:=by
 unfold rowsOf;split
 ·exact aS _
 ·exact dQ _
theorem NW (h:r∈rowsOf rs):r∈rs:=by
 unfold rowsOf at h;split at h
 ·exact h
 ·cases h
theorem FN (h:w.ownsRow b e z (.slice a n c) m xs):n=m:=by
 rcases h.2 with⟨hv,h0⟩|⟨g,cap,cur,hv,_⟩
 ·injection hv with e1 e2 e3;omega
 ·injection hv
def Pw (w:World) (k:Nat) (e:Ending) (w':World):Prop:= ∃a c,e= .returned (.slice a k c)∧Below w.heap.size w w'
theorem nP (w:World):eU 0 w .nilIface []:=.inl ⟨rfl,rfl⟩
theorem DA (hT:pK (fun _=>True) T) (w:World) (ao:Option Addr) (na ca:Nat) (rs:List PR) (h:eC w (.slice ao na ca) rs) (hlen:rs.length≤1048576) (po: ∀r∈rs,iZ r) (kL:T w.heap.size w):
  Calls prog 4 #[.slice ao na ca] w (aG w true):=by
 have HAW:=aa (Lj hT w kL);have hna:na=rs.length:=by obtain⟨_,_,hv,_⟩:=h.2;injection hv
 have HRB:Hid (∀W,Below w.heap.size w W→Calls prog 8 #[.slice ao na ca] W (gG W rs)):=aa fun W hb=>RT (h.below hb) hlen po
 have HTB:Hid (∀W,Below w.heap.size w W→Calls prog 9 #[.slice ao na ca] W (iB W rs)):=aa fun W hb=>Da hT (h.below hb) hlen po (hT.mono (hT.fY kL hb) hb.size)
 have ZJ:Hid (∀W,Calls prog 14 #[.agg #[.nilIface]] W (fN W 0)):=aa fun W=>u6 (nP W) (by decide)
 have HN0:Hid (∀W,Calls prog 15 #[.agg #[.nilIface]] W (fN W 0)):=aa fun W=>u7 (nP W) (by decide)
 have lD:Hid (∀W,Calls prog 16 #[.agg #[.nilIface]] W (Pw W 0)):=aa fun W=>(sF (nP W) (by decide) (fun x hx=>by cases hx)).mono fun e W' hp=>by
  obtain⟨v,rfl,hs,hb⟩:=hp.af5;obtain⟨a,c,hv,_⟩:=hs;exact⟨a,c,by rw[hv];rfl,hb⟩
 have Wu:Hid (∀W,Calls prog 17 #[.agg #[.nilIface]] W (Pw W 0)):=aa fun W=>(FJ (nP W) (by decide) (fun x hx=>by cases hx)).mono fun e W' hp=>by
  obtain⟨a,n,c,xs,rfl,ho,hb⟩:=hp.or rfl;have h1:=FN ho.own;have h2:xs.length=0:=by rw[ho.len];rfl
  exact⟨a,c,by rw[h1,h2],hb⟩
 have xB:=aa po;have as1:na≤1048576:=by omega
 have HNA:=aa hna;clear h hlen po kL hna;go_enter func4,ntmps4;go_wp2_with fail;refine HAW.out.mono ?_;rintro e w1 ⟨rfl,hb⟩;have B1:=aa hb;clear hb;go_wp2_with fail;refine(ZJ.out _).mono ?_;rintro e w2 ⟨rfl,hb⟩;have B2:=aa (B1.out.trans (hb.mono B1.out.size));clear hb;go_wp2_with fail;refine(HN0.out _).mono ?_;rintro e w3 ⟨rfl,hb⟩;have B3:=aa (B2.out.trans (hb.mono B2.out.size));clear hb;go_wp2_with fail;refine(lD.out _).mono ?_;rintro e w4 ⟨a4,c4,rfl,hb⟩;have B4:=aa (B3.out.trans (hb.mono B3.out.size));clear hb;go_wp2_with fail;refine(Wu.out _).mono ?_;rintro e w5 ⟨a5,c5,rfl,hb⟩;have B5:=aa (B4.out.trans (hb.mono B4.out.size));clear hb;by_cases iL:65536<na
 ·have p1:((65536:Int)<(na:Int))=True:=aA (by omega);go_wp2_with fail;go_ret;exact⟨rfl,B5.out⟩
 have p1:((65536:Int)<(na:Int))=False:=bU (by omega);go_wp2_with fail;refine(HRB.out _ B5.out).mono ?_;rintro e w6 ⟨aw,nw,cw,xs,rfl,Qb,hb⟩;have ZF:nw=(rowsOf rs).length:=(FN Qb.own).trans Qb.len;have HW6:=aa Qb;have HNW:=aa ZF;have B6:=aa (B5.out.trans (hb.mono B5.out.size));clear hb Qb ZF;go_wp2_with fail;refine(HTB.out _ B6.out).mono ?_;rintro e w7 ⟨v,rfl,TO,Ss⟩;have ov:[v].all (·.oneCell')=true:=by simp[TO.one]
 have B67:=aa Ss;have HR7:=aa TO;clear Ss TO;go_upto_region 7 with(refine ay rfl 29 (.tmp 5) (.tmp 42) rfl w7.heap.size _ rfl rfl (aK.new _ _ _) RQ rfl ov ?_)
 intro W8 hz8 hg8;go_upto_region 7 with(fail)
 have abm:Below w7.heap.size w7 W8:=fF ((aV w7.heap.size w7).alloc (aS _) _) hg8 (by simp) (aS _);have B68:Hid (Below w6.heap.size w6 W8):=aa (B67.out.trans (abm.mono B67.out.size));have B8:=aa (B6.out.trans (B68.out.mono B6.out.size));have HZ8:=aa hz8;have S0:Hid (∀W,Below W8.heap.size W8 W→eU 0 W v (fE rs)∧W.cell? ⟨w7.heap.size,0,none⟩=some v):=aa fun W hb=>⟨((HR7.out.below abm).below hb).lo (dQ _),(hb.cell (p:=⟨w7.heap.size,0,none⟩) hz8.lt).trans (hz8.cell 0)⟩
 have HWT:Hid (∀W,Below W8.heap.size W8 W→lP 0 W (.slice aw nw cw) (rowsOf rs)):=aa fun W hb=>((HW6.out.below B68.out).below hb).rows.1
 clear hz8 hg8 abm;have Xo:(rowsOf rs).length≤1048576:=by have:=NV rs;have:=HNA.out;omega
 have SZ:Hid (∀r∈rowsOf rs,iZ r):=aa fun r hr=>xB.out r (NW hr)
 have HLN:Hid (∀r∈rowsOf rs,gD r):=aa fun r hr=>(SZ.out r hr).len
 have HLT:Hid (∀x∈fE rs,gD x.2):=aa fun x hx=>HLN.out x.2 (by rw[←ti];exact tS.2 ⟨x,hx,rfl⟩)
 have ZK:Hid (∀s∈eR (rowsOf rs),s.ms.length≤1099511627776):=aa (NT SZ.out);have hsl:(eR (rowsOf rs)).length≤1099511627776:=by have:=VY (rowsOf rs);omega
 have Xf:(fE rs).length≤1048576:=by rw[Kf];exact Xo
 obtain⟨N,hN⟩: ∃n,n=iO (dv (rowsOf rs)):=⟨_,rfl⟩;have S4:Hid (∀W,Below W8.heap.size W8 W→Calls prog 14 #[.agg #[v]] W (fN W (N:Nat))):=aa fun W hb=>by
  have:=u6 (S0.out W hb).1 (by omega)
  rwa [RU,←hN]at this
 have HND:Hid (∀W,Below W8.heap.size W8 W→Calls prog 15 #[.agg #[v]] W (fN W (nw:Nat))):=aa fun W hb=>by
  have:=u7 (S0.out W hb).1 (by omega)
  rwa [Kf,←HNW.out]at this
 have HRO:Hid (∀W,Below W8.heap.size W8 W→Calls prog 17 #[.agg #[v]] W (ll W (fE rs))):=aa fun W hb=>FJ (S0.out W hb).1 (by omega) HLT.out
 have HSE:Hid (∀W,Below W8.heap.size W8 W→Calls prog 16 #[.agg #[v]] W (sc W (fE rs))):=aa fun W hb=>sF (S0.out W hb).1 (by omega) HLT.out
 have HRD:Hid (∀W,Below W8.heap.size W8 W→Calls prog 19 #[.slice aw nw cw] W (fN W (N:Nat))):=aa fun W hb=>by
  have:=Q6 (HWT.out W hb) Xo
  rwa [←hN]at this
 have HRS:Hid (∀W,Below W8.heap.size W8 W→Calls prog 21 #[.slice aw nw cw] W (GW W (rowsOf rs))):=aa fun W hb=>Ek (HWT.out W hb) (by omega) HLN.out
 have hv:(∃t g,v= .iface t (.pointer (some ⟨g,0,none⟩))∧bA rs=0)∨(v= .nilIface∧bA rs≠0):=by
  by_cases he:bA rs=0
  ·obtain⟨t,g,hv⟩:=(S0.out W8 (aV _ _)).1.some_ he;exact .inl ⟨t,g,hv,he⟩
  ·exact .inr ⟨(S0.out W8 (aV _ _)).1.akc he,he⟩
 clear hN HR7 HW6;rcases hv with⟨t,g,rfl,he⟩|⟨rfl,he⟩
 case' inl=>rw[he]
 case' inr=>
  have q1:((bA rs:Int)==0)=false:=by simpa using he
  have q2:((bA rs:Int)=0)=False:=bU (by simpa using he)
 all_goals
  clear he ov;have c8:=(S0.out W8 (aV _ _)).2;go_wp2_with fail;refine(HRO.out _ (aV _ _)).mono ?_;intro e W9 hp;obtain⟨a9,n9,c9,x9,rfl,Qb,hb⟩:=hp.or (ti rs);have B9:=aa hb;have HW9:=aa Qb.rows.1;have k9:=(S0.out W9 hb).2;clear hb Qb hp c8;go_wp2_with fail;refine(VS HW9.out (HWT.out _ B9.out) (by omega) HLN.out).mono ?_;rintro e WA ⟨rfl,hb⟩;have BA:=aa (B9.out.trans (hb.mono B9.out.size));have kA:=(S0.out WA BA.out).2;clear hb k9;go_wp2_with fail;refine(S4.out _ BA.out).mono ?_;rintro e WB ⟨rfl,hb⟩;have BB:=aa (BA.out.trans (hb.mono BA.out.size));clear hb kA;go_wp2_with fail;refine(HRD.out _ BB.out).mono ?_;rintro e WC ⟨rfl,hb⟩;have BC:=aa (BB.out.trans (hb.mono BB.out.size));have kC:=(S0.out WC BC.out).2;clear hb;go_wp2_with fail;refine(HND.out _ BC.out).mono ?_;rintro e WD ⟨rfl,hb⟩;have BD:=aa (BC.out.trans (hb.mono BC.out.size));have kD:=(S0.out WD BD.out).2;clear hb kC;go_wp2_with fail;refine(HSE.out _ BD.out).mono ?_;intro e WE hp;obtain⟨vE,rfl,hs,hb⟩:=hp.af5;rw[ti]at hs;obtain⟨aE,cE,rfl,_⟩:=id hs;have HE:=aa hs;have BE:=aa (BD.out.trans (hb.mono BD.out.size));clear hb hs hp kD;go_wp2_with fail;refine(HRS.out _ BE.out).mono ?_;rintro e WF ⟨vF,rfl,hs,hb⟩;obtain⟨aF,cF,rfl,_⟩:=id hs;have HF:=aa hs;have HEF:=aa (HE.out.below hb);have BF:=aa (BE.out.trans (hb.mono BE.out.size));clear hb hs HE;go_wp2_with fail;refine(qs HEF.out HF.out hsl ZK.out).mono ?_;rintro e WG ⟨rfl,hb⟩;have BG:=aa (B8.out.trans ((BF.out.trans (hb.mono BF.out.size)).mono B8.out.size));clear hb;go_wp2_with fail;go_ret;exact⟨rfl,BG.out⟩
end Go.Proofs.YtcdoilkjmjbgmaaGreatDoor
namespace Go.Proofs.YtcdoilkjmjbgmaaGreatDoor
open Go.ChangeShapes Go.WideShapes Go.RowKit Go.Deep
open Go.Proofs.Tryz
variable {W:World} {a:Addr} {v:Value} {fuel n k:Nat} {r:PR} {cs:List Value}
theorem GA:prog.cellsOf 9=1:=by kernel_rfl
theorem MB:prog.cellsOf 3=1:=by kernel_rfl
theorem Py:prog.cellsOf 4=1:=by kernel_rfl
theorem Pz:prog.cellsOf 42=1:=by kernel_rfl
theorem Y6:prog.cellsOf 39=1:=by kernel_rfl
theorem acd:prog.cellsOf 65=3:=by kernel_rfl
theorem ace:prog.cellsOf 46=17:=by kernel_rfl
theorem Y7:prog.cellsOf 41=2:=by kernel_rfl
theorem Y8:prog.cellsOf 44=5:=by kernel_rfl
theorem GX (h:W.cell? a=some v):a.block<W.heap.size:=by
 rcases dF a.block W.heap.size with ax|mg
 ·exact ax
 ·unfold World.cell? at h;rw[Be mg]at h;simp at h
theorem VZ {H:Type} (x:DataW H):1≤Rows.uptoBulk x:=by
 cases x with
 |lit l=>cases l<;>simp[Rows.uptoBulk]
 |nil=>simp[Rows.uptoBulk]
 |ptr d=>simp[Rows.uptoBulk]
 |slice elems spare=>simp[Rows.uptoBulk]
 |agg parts=>simp[Rows.uptoBulk]
 |iface t d=>simp[Rows.uptoBulk]
 |map entries=>simp[Rows.uptoBulk]
 |held h=>simp[Rows.uptoBulk]
theorem qi {H:Type}: ∀(l:List (DataW H)),l.length≤Rows.uptoBulkAll l
 |[]=>by simp[Rows.uptoBulkAll]
 |x::r=>by
  have h1:=VZ x;have h2:=qi r;simp only[Rows.uptoBulkAll,dZ];omega
theorem wZ {H:Type}: ∀{l:List (DataW H)} {x:DataW H},x∈l→Rows.uptoBulk x≤Rows.uptoBulkAll l
 |y::r,x,h=>by
  rcases gB.1 h with rfl|h
  ·simp only[Rows.uptoBulkAll];omega
  ·have:=wZ h;simp only[Rows.uptoBulkAll];omega
theorem yq {H:Type} {enc:TypeId×Value→H} {x:DataW H×List MemPlace} 
  (hf:DataW.trod enc prog W 0 (fun _=>true) true fuel 42 [v]=some x):
  ∃ss:List ByteArray,cU 0 W v ss∧ss.length≤Rows.uptoBulk x.1∧ ∀s∈ss,s.size≤Rows.uptoBulk x.1:=by
 rcases open_strings underlying42 underlying9 GA hf with⟨bh,hx⟩|⟨a,len,cap,ss,bh,_,hl,hm,hz,hx,fp,hws⟩
 ·obtain rfl:v= .slice none 0 0:=by simpa using bh
  exact⟨[],⟨none,0,rfl,fun j h=>absurd h (by simp)⟩,dQ _,fun s h=>by cases h⟩
 ·obtain rfl:v= .slice (some a) len cap:=by simpa using bh
  subst hx;simp only[kT]at hz;obtain⟨b,off,spot⟩:=a;have Xf:(ss.take len).length=len:=by simp;omega
  refine⟨ss.take len,⟨some ⟨b,off,spot⟩,cap,by rw[Xf],fun j hj=>?_⟩,?_,?_⟩
  ·have Lr:j<len:=by rw[Xf]at hj;exact hj
   have Jo:spot=none:=by simpa [Addr.add]using World.cell?_spot (fp 0 (by omega))
   subst Jo;refine⟨b,off,rfl,dQ _,GX (fp 0 (by omega)),?_⟩;have:=fp j (by omega);rw[ri]at this;rw[this,I3];have hjs:j<ss.length:=by omega
   simp[List.getD,hjs]
  ·have:=qi (strs (H:=H) (ss.take len));simp only[strs,jW]at this;simp only[Rows.uptoBulk,strs];omega
  ·intro s hs;have h1:DataW.lit (.string s.data.toList)∈strs (H:=H) (ss.take len):=tS.2 ⟨s,hs,rfl⟩;have h2:=wZ h1;simp only[Rows.uptoBulk,ab]at h2 ⊢;omega
instance:Inhabited PM:=⟨⟨⟨#[]⟩,0,⟨#[]⟩⟩⟩
instance:Inhabited PR:=⟨⟨0,0,⟨#[]⟩,⟨#[]⟩,[],⟨#[]⟩,⟨#[]⟩,⟨#[]⟩,⟨#[]⟩,false,false,false,[],0,[],false,[]⟩⟩
theorem RW {H:Type} {enc:TypeId × Value → H} {x:DataW H × List MemPlace} 
    (hf : DataW.trod enc prog W 0 (fun _ => true) true fuel 39 [v] = some x) :
    ∃ms:List PM,eI 0 W v ms∧ms.length≤Rows.uptoBulk x.1∧ ∀m∈ms,m.name.size≤Rows.uptoBulk x.1∧m.value.size≤Rows.uptoBulk x.1:=by
  rcases open_slice underlying39 hf with⟨bh,hx⟩|⟨a,len,cap,m,n,D,Pl,bh,_,hl,hm,LU,hx,Og⟩
  · obtain rfl : v = .slice none 0 0 := by simpa using bh
    exact⟨[],⟨none,0,rfl,fun j h=>absurd h (by simp)⟩,dQ _,fun s h=>by cases h⟩
  · obtain rfl : v = .slice (some a) len cap := by simpa using bh
    subst hx
    simp only[kT]at LU
    subst LU
    have each : ∀ i, i < len → ∃ q : PM, W.cell? (a.add (i * 3)) = some (.string q.name) ∧ W.cell? ((a.add (i * 3)).add 1) = some (.int .i64 q.op) ∧ W.cell? ((a.add (i * 3)).add 2) = some (.string q.value) ∧ q.name.size ≤ Rows.uptoBulk (D i) ∧ q.value.size ≤ Rows.uptoBulk (D i) := by
      intro i hi
      obtain⟨ω,h1,h2⟩:=Og i (by omega)
      rw[acd]at h1
      obtain⟨_,hlen,fp⟩:=ED h1
      obtain⟨xs,k,hk,Ww,_,Sl,hf⟩:=yN underlying65 h2
      match xs,Sl,ω,hlen with
      | [y0, y1, y2], _, [v0, v1, v2], _ =>
        have g0:=hf 0 _ rfl
        have g1:=hf 1 _ rfl
        have g2:=hf 2 _ rfl
        simp[MB,GA]at g0 g1 g2
        obtain⟨z0,e0,f0,_⟩:=vT underlying9 g0
        obtain⟨s1,e1,f1,_⟩:=EG underlying3 g1
        obtain⟨z2,e2,f2,_⟩:=vT underlying9 g2
        have c0:=fp 0 (by omega)
        have c1:=fp 1 (by omega)
        have c2:=fp 2 (by omega)
        simp only[vD,kS]at e0 e1 e2
        subst e0;subst e1;subst e2;subst f0;subst f1;subst f2
        simp only[vV]at Ww
        rw[Ww.1]
        refine⟨⟨z0,s1,z2⟩,by simpa [Addr.add]using c0,by simpa using c1,by simpa using c2,?_,?_⟩
        · simp [Rows.uptoBulk, Rows.uptoBulkAll]; omega
        · simp [Rows.uptoBulk, Rows.uptoBulkAll]; omega
    obtain⟨q,hq⟩:=choose_lt each
    have hbD: ∀i,i<len→Rows.uptoBulk (D i)≤Rows.uptoBulkAll ((List.range len).map D):=fun i hi=>wZ (tS.2 ⟨i,qy.2 hi,rfl⟩)
    have ot:=qi ((List.range len).map D)
    rw[jW,List.length_range]at ot
    refine⟨(List.range len).map q,?_,by simp only[jW,List.length_range,Rows.uptoBulk];omega,fun s hs=>?_⟩
    · obtain ⟨b, off, spot⟩ := a
      refine⟨some ⟨b,off,spot⟩,m,by simp,fun j hj=>?_⟩
      have Lr:j<len:=by simpa using hj
      have Jo:spot=none:=by simpa [Addr.add]using World.cell?_spot (hq 0 (by omega)).1
      subst Jo
      have e:((List.range len).map q)[j]=q j:=by simp
      rw[e]
      obtain⟨r0,r1,r2,_⟩:=hq j Lr
      rw[ri]at r0 r1 r2
      rw[ri]at r1 r2
      exact⟨b,off,rfl,dQ _,GX r0,r0,r1,r2⟩
    · obtain ⟨i, hi, rfl⟩ := tS.1 hs
      have h1:=hbD i (qy.1 hi)
      obtain⟨_,_,_,r3,r4⟩:=hq i (qy.1 hi)
      simp only[Rows.uptoBulk]
      omega
def ze (n:Nat) (r:PR):Prop:=
 (r.op.size≤n∧r.text.size≤n∧r.bV.size≤n∧r.step.size≤n∧r.off.size≤n∧r.tim.size≤n)∧(r.ms.length≤n∧ ∀m∈r.ms,m.name.size≤n∧m.value.size≤n)∧(r.mls.length≤n∧ ∀s∈r.mls,s.size≤n)∧(r.inc.length≤n∧ ∀s∈r.inc,s.size≤n)∧(r.labels.length≤n∧ ∀s∈r.labels,s.size≤n)
theorem ze.up (h:ze n r) (hk:n≤k):ze k r:=by
 obtain⟨⟨a1,a2,a3,a4,a5,a6⟩,⟨b1,b2⟩,⟨c1,c2⟩,⟨d1,d2⟩,⟨e1,e2⟩⟩:=h;exact⟨⟨by omega,by omega,by omega,by omega,by omega,by omega⟩,⟨by omega,fun m hm=>by have:=b2 m hm;omega⟩,⟨by omega,fun m hm=>by have:=c2 m hm;omega⟩,⟨by omega,fun m hm=>by have:=d2 m hm;omega⟩,⟨by omega,fun m hm=>by have:=e2 m hm;omega⟩⟩
theorem ze.small (h:ze 1048576 r):iZ r:=by
 obtain⟨⟨a1,a2,a3,a4,a5,a6⟩,⟨b1,b2⟩,⟨c1,c2⟩,⟨d1,d2⟩,⟨e1,e2⟩⟩:=h;exact⟨a1,a2,a3,a4,a5,a6,b1,b2,c1,c2,d1,d2,e1,e2⟩
theorem V0 {H:Type} {enc:TypeId × Value → H} {x:DataW H × List MemPlace} (hl : cs.length = 17)
    (h2 : DataW.trod enc prog W 0 (fun _ => true) true fuel 46 cs = some x) :
    ∃(r:PR) (vm vo vi vl:Value),cs=lO r vm vo vi vl∧bw 0 W r vm vo vi vl∧ze (Rows.uptoBulk x.1) r:=by
  obtain⟨xs,k,hk,Ww,_,Sl,hf⟩:=yN underlying46 h2
  match xs,Sl,cs,hl with
  | [y0, y1, y2, y3, y4, y5, y6, y7, y8, y9, y10, y11], _, [v0, v1, v2, v3, v4, v5, v6, v7, v8, v9, v10, v11, v12, v13, v14, v15, v16], _ =>
    have g0:=hf 0 _ rfl
    have g1:=hf 1 _ rfl
    have g2:=hf 2 _ rfl
    have g3:=hf 3 _ rfl
    have g4:=hf 4 _ rfl
    have g5:=hf 5 _ rfl
    have g6:=hf 6 _ rfl
    have g7:=hf 7 _ rfl
    have g8:=hf 8 _ rfl
    have g9:=hf 9 _ rfl
    have g10:=hf 10 _ rfl
    have g11:=hf 11 _ rfl
    clear hf
    simp[MB,GA,Py,Y6,Pz,Y7,Y8]at g0 g1 g2 g3 g4 g5 g6 g7 g8 g9 g10 g11
    obtain⟨ws,k7,_,hw,_,hwl,hf7⟩:=yN underlying41 g7
    obtain⟨ns,k9,_,hn,_,IA,hf9⟩:=yN underlying44 g9
    match ws,hwl,ns,IA with
    | [w0, w1], _, [n0, n1, n2, n3, n4], _ =>
      have g70:=hf7 0 _ rfl
      have g71:=hf7 1 _ rfl
      have g90:=hf9 0 _ rfl
      have g91:=hf9 1 _ rfl
      have g92:=hf9 2 _ rfl
      have g93:=hf9 3 _ rfl
      have g94:=hf9 4 _ rfl
      clear hf7 hf9 g7 g9
      simp[MB,GA,Py,Pz]at g70 g71 g90 g91 g92 g93 g94
      obtain⟨z0,e0,f0,_⟩:=EG underlying3 g0
      obtain⟨z1,e1,f1,_⟩:=EG underlying3 g1
      obtain⟨z2,e2,f2,_⟩:=vT underlying9 g2
      obtain⟨z3,e3,f3,_⟩:=vT underlying9 g3
      obtain⟨z4,m4,b4,q4⟩:=RW g4
      obtain⟨z5,e5,f5,_⟩:=vT underlying9 g5
      obtain⟨z6,e6,f6,_⟩:=vT underlying9 g6
      obtain⟨z7,e7,f7,_⟩:=vT underlying9 g70
      obtain⟨z8,e8,f8,_⟩:=vT underlying9 g71
      obtain⟨z9,e9,f9⟩:=Jb underlying4 g8
      obtain⟨z10,LM,f10⟩:=Jb underlying4 g90
      obtain⟨z11,e11,f11⟩:=Jb underlying4 g91
      obtain⟨z12,m12,b12,q12⟩:=yq g92
      obtain⟨z13,e13,f13,_⟩:=EG underlying3 g93
      obtain⟨z14,m14,b14,q14⟩:=yq g94
      obtain⟨z15,e15,f15⟩:=Jb underlying4 g10
      obtain⟨z16,m16,b16,ZL⟩:=yq g11
      simp only[vD,kS]at e0 e1 e2 e3 e5 e6 e7 e8 e9 LM e11 e13 e15
      subst e0 e1 e2 e3 e5 e6 e7 e8 e9 LM e11 e13 e15
      subst f0 f1 f2 f3 f5 f6 f7 f8 f9 f10 f11 f13 f15
      have ej:=cz Prod.fst hw
      have AR:=cz Prod.fst hn
      have lC:=cz Prod.fst Ww
      simp only[kO,rj]at ej AR lC
      rw[ej,AR]at lC
      rw[lC]
      refine⟨⟨z0,z1,z2,z3,z4,z5,z6,z7,z8,z9,z10,z11,z12,z13,z14,z15,z16⟩,v4,v12,v14,v16,rfl,⟨m4,m12,m14,m16⟩,?_⟩
      simp only[Rows.uptoBulk,Rows.uptoBulkAll,ab]
      refine⟨⟨by simp only;omega,by simp only;omega,by simp only;omega,by simp only;omega,by simp only;omega,by simp only;omega⟩,⟨by simp only;omega,fun m hm=>by have:=q4 m hm;omega⟩,⟨by simp only;omega,fun m hm=>by have:=q12 m hm;omega⟩,⟨by simp only;omega,fun m hm=>by have:=q14 m hm;omega⟩,⟨by simp only;omega,fun m hm=>by have:=ZL m hm;omega⟩⟩
theorem RY {H:Type} {enc:TypeId×Value→H} {x:DataW H×List MemPlace} 
  (hf:DataW.trod enc prog W 0 (fun _=>true) true fuel 22 [v]=some x):
  ∃rs:List PR,lP 0 W v rs∧(∃a c,v= .slice a rs.length c∧rs.length≤c)∧rs.length≤Rows.uptoBulk x.1∧ ∀r∈rs,ze (Rows.uptoBulk x.1) r:=by
 rcases open_slice underlying22 hf with⟨bh,hx⟩|⟨a,len,cap,m,n,D,Pl,bh,_,hl,hm,LU,hx,Og⟩
 ·obtain rfl:v= .slice none 0 0:=by simpa using bh
  exact⟨[],⟨none,0,rfl,fun j h=>absurd h (by simp)⟩,⟨none,0,rfl,aS _⟩,dQ _,fun s h=>by cases h⟩
 ·obtain rfl:v= .slice (some a) len cap:=by simpa using bh
  subst hx;simp only[kT]at LU;subst LU;have each: ∀i,i<len→ ∃q:PR×Value×Value×Value×Value,W.cells? 0 (a.add (i*17)) 17=some (lO q.1 q.2.1 q.2.2.1 q.2.2.2.1 q.2.2.2.2)∧bw 0 W q.1 q.2.1 q.2.2.1 q.2.2.2.1 q.2.2.2.2∧ze (Rows.uptoBulk (D i)) q.1:=by
   intro i hi;obtain⟨ω,h1,h2⟩:=Og i (by omega);rw[ace]at h1;obtain⟨_,hlen,fp⟩:=ED h1;obtain⟨r,vm,vo,vi,vl,rfl,q1,q2⟩:=V0 hlen h2;exact⟨⟨r,vm,vo,vi,vl⟩,h1,q1,q2⟩
  obtain⟨q,hq⟩:=choose_lt each;have hbD: ∀i,i<len→Rows.uptoBulk (D i)≤Rows.uptoBulkAll ((List.range len).map D):=fun i hi=>wZ (tS.2 ⟨i,qy.2 hi,rfl⟩)
  have ot:=qi ((List.range len).map D);rw[jW,List.length_range]at ot;have fp: ∀j,j<len→ ∀k (hk:k<17),W.cell? ((a.add (j*17)).add k)=some ((lO (q j).1 (q j).2.1 (q j).2.2.1 (q j).2.2.2.1 (q j).2.2.2.2)[k]'(by simp[lO];omega)):=fun j hj k hk=>by
   obtain⟨_,hlen,fp⟩:=ED (hq j hj).1;exact(fp k hk).trans (eG _)
  refine⟨(List.range len).map fun i=>(q i).1,?_,⟨some a,m,by simp,by simpa using hl⟩,by simp only[jW,List.length_range,Rows.uptoBulk];omega,fun s hs=>?_⟩
  ·obtain⟨b,off,spot⟩:=a;refine⟨some ⟨b,off,spot⟩,m,by simp,fun j hj=>?_⟩;have Lr:j<len:=by simpa using hj
   have Jo:spot=none:=by simpa [Addr.add]using World.cell?_spot (fp 0 (by omega) 0 (by omega))
   subst Jo;have e:((List.range len).map fun i=>(q i).1)[j]=(q j).1:=by simp
   have h0:=fp j Lr 0 (by omega);rw[ri,ri]at h0;rw[e];refine⟨b,off,rfl,dQ _,GX h0,_,_,_,_,(hq j Lr).2.1,fun k hk=>?_⟩;have:=fp j Lr k hk;rw[ri,ri]at this;exact this
  ·obtain⟨i,hi,rfl⟩:=tS.1 hs;have h1:=hbD i (qy.1 hi);refine(hq i (qy.1 hi)).2.2.up ?_;simp only[Rows.uptoBulk];omega
