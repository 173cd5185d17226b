import Derived.Test.YtcdoilkjmjbgmaaGreatDoorS51
import Derived.Test.YtcdoilkjmjbgmaaGreatDoorS35
/- Part of the proof of YtcdoilkjmjbgmaaGreatDoorCardY: TvS TvT TvU OpenR. -/
set_option maxRecDepth 100000
set_option maxHeartbeats 4000000
set_option linter.unusedVariables false
set_option linter.unusedSimpArgs false
namespace Go.Proofs.YtcdoilkjmjbgmaaGreatDoor
open Go.RowKit
open Go.Proofs.Tryz
variable {l:List Nat} {m b g n c k:Nat} {w w':World} {e:TypeId} {a:Option Addr} {rs:List PR} {r:PR} {v:Value}
theorem O8:mw l≤m↔ ∀x∈l,x≤m:=by
 induction l with
 |nil=>simp[mw]
 |cons a l ih=>rw[oQ,Nat.max_le,ih];simp
theorem Rp (h:w.ownsRow b e 1 (.slice (some ⟨g,0,none⟩) n c) n (l.map s7)) {j:Nat} (hj:j<l.length):w.cell? ⟨g,j,none⟩=some (.int .i64 (l[j]:Int)):=by
 have hl:l.length=n:=by have:=h.1;simpa using this
 rw[h.cellAt j (by omega)];exact(lJ (by simpa using hj)).trans (by rw[List.getElem_map];rfl)
theorem VW (h:w.ownsRow b e 1 (.slice a n c) m (l.map s7)):n=l.length∧m=l.length∧(0<l.length→ ∃g,a=some ⟨g,0,none⟩):=by
 have hl:l.length=m:=by have:=h.1;simpa using this
 rcases h.2 with⟨hv,h0⟩|⟨g,cap,cur,hv,_⟩
 ·injection hv with e1 e2 e3
  exact⟨by omega,hl.symm,fun h=>by omega⟩
 ·injection hv with e1 e2 e3
  exact⟨by omega,hl.symm,fun _=>⟨g,e1⟩⟩
def rowsOf (rs:List PR):List PR:=if cE rs=0 then rs else[]
def fN (w:World) (rs:List PR) (e:Ending) (w':World):Prop:= ∃a n c xs,e= .returned (.tuple #[.slice a n c,.int .i64 (cE rs:Nat)])∧OR w.heap.size w' (.slice a n c) xs (rowsOf rs)∧Below w.heap.size w w'
theorem OR.lo {lo lo':Nat} {W:World} {v:Value} {xs:List WI} {rs:List PR} (h:OR lo W v xs rs) (hl:lo'≤lo):OR lo' W v xs rs:=⟨cr h.own hl,fun z hz=>⟨(h.px z hz).1.lo hl,(h.px z hz).2⟩,h.Hf,h.key⟩
theorem OR.none_ (lo:Nat) (W:World):OR lo W (.slice none 0 0) [] []:=⟨sZ _ _ _ _,(fun z h=>by cases h),List.Pairwise.nil,rfl⟩
theorem fN.no (h:cE rs=n) (hn:n≠0) (hb:Below w.heap.size w w'):fN w rs (.returned (.tuple #[.slice none 0 0,.int .i64 (n:Nat)])) w':=
 ⟨none,0,0,[],by rw[h],by unfold rowsOf;rw[h,ah hn];exact OR.none_ _ _,hb⟩
theorem rR (h:dB rs=false):cE rs=120:=by unfold cE;rw[h];rfl
theorem KG (h:aC r=true):0≤r.kids:=by rw[wC h];omega
theorem qd (h:dB rs=true):eW rs=true:=by
 obtain⟨h1,h2,_⟩:=jg h;unfold eW;rw[h1,mx,qS];exact fun r hr=>dO (KG (qS.1 h2 r hr))
theorem CE : ∀ (x : List PR) (n : Nat) (r : PR), trees n (x ++ [r]) = true → nk r = 0
  | [], 0, r, h => by simp [trees] at h
  | [], n + 1, r, h => by
    have:=jZ.1 (show trees (nk r+n) []=true from h)
    omega
  | q :: x, 0, r, h => by simp [trees] at h
  | q :: x, n + 1, r, h => CE x (nk q + n) r h
theorem NF (hk:k<rs.length) (ht:trees 1 rs=true) (hs:aC rs[k]=true) (h4:rs[k].kind=4):k+1<rs.length:=by
 rcases dE (k+1) rs.length with h|h
 ·exact h
 ·exfalso;have h1:=dU hk;rw[Oc h]at h1;rw[h1]at ht;have h2:=CE _ _ _ ht;have h3:du rs[k].kind rs[k].kids=true:=by
   unfold aC at hs;simp only[kH]at hs;exact hs.1.1
  rw[h4]at h3;simp[du]at h3;unfold nk at h2;omega
theorem Rq (h:dB rs=true) (hd: ∃d∈ij rs,128<d):cE rs=3:=by
 refine Ct h ?_;obtain⟨d,h1,h2⟩:=hd;unfold ij at h1;rw[az (qd h)]at h1;rcases dE 128 (iD rs)with h3|h3
 ·exact h3
 ·have:=O8.1 (show mw (aT [1] rs)≤128 from h3) d h1;omega
theorem Rr (h:dB rs=true) (hd: ∀d∈ij rs,d≤128):cE rs=0:=by
 refine rG.2 ⟨h,O8.2 fun d h1=>hd d ?_⟩;unfold ij
 rwa [az (qd h)]
theorem Fp (hk:k<rs.length) {r:PR} (hr:r=rs[k]) (h:rh (rs.take k) (rs.drop k)=true) (hs:aC r=true) (hn:(!decide (r.kind=4)||ig (rs.drop (k+1)))=true):rh (rs.take (k+1)) (rs.drop (k+1))=true:=by
 rw[jO hk,←hr];refine Cq ?_ hs hn
 rwa [o5 hk,←hr]at h
theorem Fq (h:ey w v rs) (hlen:rs.length≤1048576) (o3: ∀r∈rs,ju r):
  Calls prog 8 #[v] w (fN w rs):=by
 obtain⟨ao,c,rfl,hc⟩:=id h.1;have HD:=ae (MX h.1 hlen);have HCP:Hid (∀W,Below w.heap.size w W→Calls prog 30 #[.slice ao rs.length c] W (rL W rs)):=ae fun W hb=>VS ((h.1.below hb).lo (aV _)) (by omega) fun r hr=>(o3 r hr).len
 have HC:=ae hc;have sR:=ae o3;clear h hc o3;go_enter func8,ntmps8;go_wp2_with fail;refine HD.out.mono ?_;rintro e w1 ⟨a,n,cd,rfl,ho,hb⟩;obtain⟨rfl,_,hg⟩:=VW ho;have HO:=ae ho;have HB:=ae hb;have HG:=ae hg;clear ho hb hg HD;cases hd:eW rs with
 |false=>
  have HP:=ae (fN.no (w:=w) (w':=w1) (rR (by cases h:dB rs with|false=>rfl|true=>rw[qd h]at hd;cases hd)) (by decide) HB.out);generalize (ij rs).length=nd;clear hd HO HG;go_wp2_with fail;go_ret2;exact HP.out
 |true=>
  have ht:trees 1 rs=true:=by unfold eW at hd;rw[kH]at hd;exact hd.1
  have HT:=ae ht;have Wv:=ae (zb hd);have Pu:(ij rs).length≤1048576:=by rw[zb hd];exact hlen
  obtain⟨D,hD⟩: ∃D,D=ij rs:=⟨_,rfl⟩;rw[←hD]at HO HG Wv Pu ⊢
  have Pv:=ae hD;clear hd ht hD;go_wp2_with fail;go_loopw [6] (fun t6 W=> ∃k:Nat,t6= .int .i64 (k:Int)∧Hid (k≤rs.length∧rh (rs.take k) (rs.drop k)=true∧Below w1.heap.size w1 W)) (fun t6 _=>rs.length-(intOf t6).toNat)
  case atStart=>exact⟨0,rfl,ae ⟨aV _,by simp[rh],aU _ _⟩⟩
  case round=>
   obtain⟨k,rfl,hI⟩:=hrel;by_cases aA:k<rs.length
   ·have p1:((k:Int)<(rs.length:Int))=True:=aD (by omega);obtain⟨g,o,rfl,_,hg,vm,vo,vi,vl,lg,bf⟩:=HC.out k aA;obtain⟨r,hr⟩: ∃r,r=rs[k]:=⟨_,rfl⟩;rw[←hr]at lg bf;have AH:Below w.heap.size w wr:=HB.out.trans (hI.out.2.2.mono HB.out.size);have LQ:Hid (∀W,Below w.heap.size w W→Calls prog 29 #[jM r vm vo vi vl] W (aF W (aC r))):=ae fun W hb=>Rh (lg.below hb) (sR.out r (by rw[hr];exact jj aA))
    obtain⟨⟨am,cm,rfl,_⟩,⟨uY,co,rfl,_⟩,⟨ai,ci,rfl,_⟩,⟨al,cl,rfl,_⟩⟩:=lg;obtain⟨c0,c1,c2,c3,c4,c5,c6,c7,c8,c9,PC,PD,c12,PE,PF,NY,NZ⟩:=sn (W:=wr) (o:=o+k*17) fun j hj=>(AH.cell (p:=⟨g,_,none⟩) hg).trans (bf j hj)
    simp only[jM]at LQ;have HK:Hid (∀W,Below w.heap.size w W→W.cell? ⟨g,o+k*17,none⟩=some (.int .i64 r.kind)):=ae fun W hb=>(hb.cell (p:=⟨g,_,none⟩) hg).trans (bf 0 (by omega))
    have Dj:=ae AH;have HR:=ae hr;have HNX:Hid (∀(h:k+1<rs.length) (W:World),Below w.heap.size w W→W.cell? ⟨g,o+(k+1)*17,none⟩=some (.int .i64 rs[k+1].kind)):=ae fun h W hb=>by
     obtain⟨g',o',he,_,Sq,_,_,_,_,_,vp⟩:=HC.out (k+1) h;cases he;exact(hb.cell (p:=⟨g,_,none⟩) Sq).trans (vp 0 (by omega))
    clear bf AH hr;cases hs:aC r with
    |false=>
     rw[hs]at LQ;have HP:Hid (∀W,Below w.heap.size w W→fN w rs (.returned (.tuple #[.slice none 0 0,.int .i64 (120:Nat)])) W):=ae fun W hb=>fN.no (rR (CB aA (by rw[←HR.out];exact hs))) (by decide) hb
     clear hs;go_wp2_with (go_at_call 29;(with_reducible refine(LQ.out _ Dj.out).mono ?_);rintro e W1 ⟨rfl,aY⟩;have cF:=ae (Dj.out.trans (aY.mono Dj.out.size));clear aY);go_ret2;exact HP.out _ cF.out
    |true=>
     rw[hs]at LQ;have HS:=ae hs;clear hs;by_cases u4:r.kind=4
     ·have Pg:=NF aA HT.out (by rw[←HR.out];exact HS.out) (by rw[←HR.out];exact u4);have q4:(r.kind==4)=true:=by simp[u4]
      have q6:((k:Int)+1<(rs.length:Int))=True:=aD (by omega);have HKC:=ae (HNX.out Pg);have X9:=uG Pg;cases h3:decide (rs[k+1].kind=3)with
      |true=>
       have HN:=ae (Fp aA HR.out hI.out.2.1 HS.out (by rw[X9,h3];simp));have q7:(rs[k+1].kind != 3)=false:=by simpa using h3
       generalize rs[k+1].kind=kn at HKC q7;clear h3 X9 u4;go_wp2_with (go_at_call 29;(with_reducible refine(LQ.out _ Dj.out).mono ?_);rintro e W1 ⟨rfl,aY⟩;have cF:=ae aY;have k0:=HK.out W1 (Dj.out.trans (aY.mono Dj.out.size));have k3:=HKC.out W1 (Dj.out.trans (aY.mono Dj.out.size));clear aY);go_roundw
       case rel=>exact⟨k+1,by go_num,ae ⟨aA,HN.out,hI.out.2.2.trans (cF.out.mono hI.out.2.2.size)⟩⟩
       case measure=>simp[intOf];omega
      |false=>
       have HP:Hid (∀W,Below w.heap.size w W→fN w rs (.returned (.tuple #[.slice none 0 0,.int .i64 (120:Nat)])) W):=ae fun W hb=>fN.no (rR (BS aA (by rw[←HR.out];exact u4) (X9.trans h3))) (by decide) hb
       have q7:(rs[k+1].kind != 3)=true:=by simpa using h3
       generalize rs[k+1].kind=kn at HKC q7;clear h3 X9 u4;go_wp2_with (go_at_call 29;(with_reducible refine(LQ.out _ Dj.out).mono ?_);rintro e W1 ⟨rfl,aY⟩;have cF:=ae (Dj.out.trans (aY.mono Dj.out.size));have k0:=HK.out W1 cF.out;have k3:=HKC.out W1 cF.out;clear aY);go_ret2;exact HP.out _ cF.out
     ·have q4:(r.kind==4)=false:=by simpa using u4
      have HN:=ae (Fp aA HR.out hI.out.2.1 HS.out (by simp[u4]));clear u4;go_wp2_with (go_at_call 29;(with_reducible refine(LQ.out _ Dj.out).mono ?_);rintro e W1 ⟨rfl,aY⟩;have cF:=ae aY;have k0:=HK.out W1 (Dj.out.trans (aY.mono Dj.out.size));clear aY);go_roundw
      case rel=>exact⟨k+1,by go_num,ae ⟨aA,HN.out,hI.out.2.2.trans (cF.out.mono hI.out.2.2.size)⟩⟩
      case measure=>simp[intOf];omega
   ·have p1:((k:Int)<(rs.length:Int))=False:=bT (by omega);obtain rfl:k=rs.length:=by have:=hI.out.1;omega
    have HSH:Hid (dB rs=true):=ae (by
     have h1:=hI.out.2.1;rw[qO,List.drop_length]at h1;rw[EW h1];exact HT.out)
    have lD:=ae (bJ HO.out (by have:=hI.out.2.2;exact this));have bF:=ae (HB.out.trans (hI.out.2.2.mono HB.out.size));obtain⟨W2,rfl⟩: ∃W2,W2=wr:=⟨_,rfl⟩;clear hI HO HB;go_wp2_with fail;go_loopw [7] (fun t7 W=> ∃j:Nat,t7= .int .i64 (j:Int)∧W=W2∧Hid (j≤D.length∧ ∀i (h:i<D.length),i<j→D[i]≤128)) (fun t7 _=>D.length-(intOf t7).toNat)
    case atStart=>exact⟨0,rfl,rfl,ae ⟨aV _,fun i _ h=>absurd h (IE _)⟩⟩
    case round=>
     obtain⟨j,rfl,rfl,hJ⟩:=hrel;by_cases hj:j<D.length
     ·have q1:((j:Int)<(D.length:Int))=True:=aD (by omega);obtain⟨g6,rfl⟩:=HG.out (by omega);have c0:=Rp lD.out hj;obtain⟨d,hdj⟩: ∃d,d=D[j]:=⟨_,rfl⟩;rw[←hdj]at c0;have HDJ:=ae hdj;clear hdj;by_cases Td:128<d
      ·have q2:((128:Int)<(d:Int))=True:=aD (by omega);have q3:(128<d)=True:=aD Td;have HP:Hid (fN w rs (.returned (.tuple #[.slice none 0 0,.int .i64 (3:Nat)])) wr):=ae (fN.no (Rq HSH.out ⟨d,by rw[←Pv.out,HDJ.out];exact jj hj,Td⟩) (by decide) bF.out);clear Td;go_wp2_with fail;go_ret2;exact HP.out
      ·have q2:((128:Int)<(d:Int))=False:=bT (by omega);have q3:(128<d)=False:=bT Td;have HN:Hid (j+1≤D.length∧ ∀i (h:i<D.length),i<j+1→D[i]≤128):=ae ⟨hj,fun i h hi=>by
        by_cases Xq:i<j
        ·exact hJ.out.2 i h Xq
        ·obtain rfl:i=j:=by omega
         rw[←HDJ.out];omega⟩
       clear Td hJ;go_wp2_with fail;go_roundw
       case rel=>exact⟨j+1,by go_num,by first|rfl|trivial,HN⟩
       case measure=>simp[intOf];omega
     ·have q1:((j:Int)<(D.length:Int))=False:=bT (by omega);have HE:Hid (cE rs=0):=ae (Rr HSH.out fun d hd=>by
       rw[←Pv.out]at hd;obtain⟨i,hi,rfl⟩:=List.mem_iff_getElem.1 hd;exact hJ.out.2 i hi (by omega))
      clear hJ;go_wp2_with fail;refine(HCP.out _ bF.out).mono ?_;intro e W3 hp;obtain⟨a3,n3,c3,xs,rfl,PI,cu⟩:=hp.or;have HF:Hid (fN w rs (.returned (.tuple #[.slice a3 n3 c3,.int .i64 (0:Nat)])) W3):=ae ⟨a3,n3,c3,xs,by rw[HE.out],by
       unfold rowsOf;rw[az HE.out];exact PI.lo bF.out.size,bF.out.trans (cu.mono bF.out.size)⟩
      clear hp PI cu;go_wp2_with fail;go_ret2;exact HF.out
end Go.Proofs.YtcdoilkjmjbgmaaGreatDoor
namespace Go.Proofs.YtcdoilkjmjbgmaaGreatDoor
open Go.ChangeShapes Go.WideShapes Go.RowKit Go.Deep
open Go.Proofs.Tryz
variable {W:World} {a:Addr} {v:Value} {fuel n k:Nat} {r:PR} {cs:List Value}
theorem Gc:prog.cellsOf 9=1:=by kernel_rfl
theorem Me:prog.cellsOf 3=1:=by kernel_rfl
theorem O9:prog.cellsOf 4=1:=by kernel_rfl
theorem Pa:prog.cellsOf 42=1:=by kernel_rfl
theorem Zf:prog.cellsOf 39=1:=by kernel_rfl
theorem acn:prog.cellsOf 65=3:=by kernel_rfl
theorem aco:prog.cellsOf 46=17:=by kernel_rfl
theorem Zg:prog.cellsOf 41=2:=by kernel_rfl
theorem Zh:prog.cellsOf 44=5:=by kernel_rfl
theorem Gx (h:W.cell? a=some v):a.block<W.heap.size:=by
 rcases dE a.block W.heap.size with aA|lW
 ·exact aA
 ·unfold World.cell? at h;rw[AW lW]at h;simp at h
theorem VX {H:Type} (x:DataW H):1≤Rows.uptoBulk x:=by
 cases x with
 |lit l=>cases l<;>simp[Rows.uptoBulk]
 |nil=>simp[Rows.uptoBulk]
 |ptr d=>simp[Rows.uptoBulk]
 |slice elems spare=>simp[Rows.uptoBulk]
 |agg parts=>simp[Rows.uptoBulk]
 |iface t d=>simp[Rows.uptoBulk]
 |map entries=>simp[Rows.uptoBulk]
 |held h=>simp[Rows.uptoBulk]
theorem pU {H:Type}: ∀(l:List (DataW H)),l.length≤Rows.uptoBulkAll l
 |[]=>by simp[Rows.uptoBulkAll]
 |x::r=>by
  have h1:=VX x;have h2:=pU r;simp only[Rows.uptoBulkAll,ek];omega
theorem wD {H:Type}: ∀{l:List (DataW H)} {x:DataW H},x∈l→Rows.uptoBulk x≤Rows.uptoBulkAll l
 |y::r,x,h=>by
  rcases gL.1 h with rfl|h
  ·simp only[Rows.uptoBulkAll];omega
  ·have:=wD h;simp only[Rows.uptoBulkAll];omega
theorem xT {H:Type} {enc:TypeId×Value→H} {x:DataW H×List MemPlace} 
  (hf:DataW.trod enc prog W 0 (fun _=>true) true fuel 42 [v]=some x):
  ∃ss:List ByteArray,cO 0 W v ss∧ss.length≤Rows.uptoBulk x.1∧ ∀s∈ss,s.size≤Rows.uptoBulk x.1:=by
 rcases open_strings underlying42 underlying9 Gc hf with⟨bf,hx⟩|⟨a,len,cap,ss,bf,_,hl,hm,hz,hx,fm,hws⟩
 ·obtain rfl:v= .slice none 0 0:=by simpa using bf
  exact⟨[],⟨none,0,rfl,fun j h=>absurd h (by simp)⟩,aV _,fun s h=>by cases h⟩
 ·obtain rfl:v= .slice (some a) len cap:=by simpa using bf
  subst hx;simp only[kK]at hz;obtain⟨b,off,spot⟩:=a;have ZA:(ss.take len).length=len:=by simp;omega
  refine⟨ss.take len,⟨some ⟨b,off,spot⟩,cap,by rw[ZA],fun j hj=>?_⟩,?_,?_⟩
  ·have KR:j<len:=by rw[ZA]at hj;exact hj
   have IV:spot=none:=by simpa [Addr.add]using World.cell?_spot (fm 0 (by omega))
   subst IV;refine⟨b,off,rfl,aV _,Gx (fm 0 (by omega)),?_⟩;have:=fm j (by omega);rw[lE]at this;rw[this,Iy];have hjs:j<ss.length:=by omega
   simp[List.getD,hjs]
  ·have:=pU (strs (H:=H) (ss.take len));simp only[strs,ln]at this;simp only[Rows.uptoBulk,strs];omega
  ·intro s hs;have h1:DataW.lit (.string s.data.toList)∈strs (H:=H) (ss.take len):=tz.2 ⟨s,hs,rfl⟩;have h2:=wD h1;simp only[Rows.uptoBulk,af]at h2 ⊢;omega
instance:Inhabited PM:=⟨⟨⟨#[]⟩,0,⟨#[]⟩⟩⟩
instance:Inhabited PR:=⟨⟨0,0,⟨#[]⟩,⟨#[]⟩,[],⟨#[]⟩,⟨#[]⟩,⟨#[]⟩,⟨#[]⟩,false,false,false,[],0,[],false,[]⟩⟩
theorem Rs {H:Type} {enc:TypeId × Value → H} {x:DataW H × List MemPlace} 
    (hf : DataW.trod enc prog W 0 (fun _ => true) true fuel 39 [v] = some x) :
    ∃ms:List PM,fV 0 W v ms∧ms.length≤Rows.uptoBulk x.1∧ ∀m∈ms,m.name.size≤Rows.uptoBulk x.1∧m.value.size≤Rows.uptoBulk x.1:=by
  rcases open_slice underlying39 hf with⟨bf,hx⟩|⟨a,len,cap,m,n,D,Pl,bf,_,hl,hm,Lw,hx,NR⟩
  · obtain rfl : v = .slice none 0 0 := by simpa using bf
    exact⟨[],⟨none,0,rfl,fun j h=>absurd h (by simp)⟩,aV _,fun s h=>by cases h⟩
  · obtain rfl : v = .slice (some a) len cap := by simpa using bf
    subst hx
    simp only[kK]at Lw
    subst Lw
    have each : ∀ i, i < len → ∃ q : PM, W.cell? (a.add (i * 3)) = some (.string q.name) ∧ W.cell? ((a.add (i * 3)).add 1) = some (.int .i64 q.op) ∧ W.cell? ((a.add (i * 3)).add 2) = some (.string q.value) ∧ q.name.size ≤ Rows.uptoBulk (D i) ∧ q.value.size ≤ Rows.uptoBulk (D i) := by
      intro i hi
      obtain⟨cs',h1,h2⟩:=NR i (by omega)
      rw[acn]at h1
      obtain⟨_,hlen,fm⟩:=Eg h1
      obtain⟨xs,k,hk,WD,_,RZ,hf⟩:=yt underlying65 h2
      match xs,RZ,cs',hlen with
      | [y0, y1, y2], _, [v0, v1, v2], _ =>
        have g0:=hf 0 _ rfl
        have g1:=hf 1 _ rfl
        have g2:=hf 2 _ rfl
        simp[Me,Gc]at g0 g1 g2
        obtain⟨z0,e0,f0,_⟩:=vt underlying9 g0
        obtain⟨s1,e1,f1,_⟩:=Ek underlying3 g1
        obtain⟨z2,e2,f2,_⟩:=vt underlying9 g2
        have c0:=fm 0 (by omega)
        have c1:=fm 1 (by omega)
        have c2:=fm 2 (by omega)
        simp only[u6,kJ]at e0 e1 e2
        subst e0;subst e1;subst e2;subst f0;subst f1;subst f2
        simp only[vw]at WD
        rw[WD.1]
        refine⟨⟨z0,s1,z2⟩,by simpa [Addr.add]using c0,by simpa using c1,by simpa using c2,?_,?_⟩
        · simp [Rows.uptoBulk, Rows.uptoBulkAll]; omega
        · simp [Rows.uptoBulk, Rows.uptoBulkAll]; omega
    obtain⟨q,hq⟩:=choose_lt each
    have hbD: ∀i,i<len→Rows.uptoBulk (D i)≤Rows.uptoBulkAll ((List.range len).map D):=fun i hi=>wD (tz.2 ⟨i,qj.2 hi,rfl⟩)
    have oe:=pU ((List.range len).map D)
    rw[ln,List.length_range]at oe
    refine⟨(List.range len).map q,?_,by simp only[ln,List.length_range,Rows.uptoBulk];omega,fun s hs=>?_⟩
    · obtain ⟨b, off, spot⟩ := a
      refine⟨some ⟨b,off,spot⟩,m,by simp,fun j hj=>?_⟩
      have KR:j<len:=by simpa using hj
      have IV:spot=none:=by simpa [Addr.add]using World.cell?_spot (hq 0 (by omega)).1
      subst IV
      have e:((List.range len).map q)[j]=q j:=by simp
      rw[e]
      obtain⟨r0,r1,r2,_⟩:=hq j KR
      rw[lE]at r0 r1 r2
      rw[lE]at r1 r2
      exact⟨b,off,rfl,aV _,Gx r0,r0,r1,r2⟩
    · obtain ⟨i, hi, rfl⟩ := tz.1 hs
      have h1:=hbD i (qj.1 hi)
      obtain⟨_,_,_,r3,r4⟩:=hq i (qj.1 hi)
      simp only[Rows.uptoBulk]
      omega
def yL (n:Nat) (r:PR):Prop:=
 (r.op.size≤n∧r.text.size≤n∧r.bU.size≤n∧r.step.size≤n∧r.off.size≤n∧r.tim.size≤n)∧(r.ms.length≤n∧ ∀m∈r.ms,m.name.size≤n∧m.value.size≤n)∧(r.mls.length≤n∧ ∀s∈r.mls,s.size≤n)∧(r.inc.length≤n∧ ∀s∈r.inc,s.size≤n)∧(r.labels.length≤n∧ ∀s∈r.labels,s.size≤n)
theorem yL.up (h:yL n r) (hk:n≤k):yL k r:=by
 obtain⟨⟨a1,a2,a3,a4,a5,a6⟩,⟨b1,b2⟩,⟨c1,c2⟩,⟨d1,d2⟩,⟨e1,e2⟩⟩:=h;exact⟨⟨by omega,by omega,by omega,by omega,by omega,by omega⟩,⟨by omega,fun m hm=>by have:=b2 m hm;omega⟩,⟨by omega,fun m hm=>by have:=c2 m hm;omega⟩,⟨by omega,fun m hm=>by have:=d2 m hm;omega⟩,⟨by omega,fun m hm=>by have:=e2 m hm;omega⟩⟩
theorem yL.small (h:yL 1048576 r):ju r:=by
 obtain⟨⟨a1,a2,a3,a4,a5,a6⟩,⟨b1,b2⟩,⟨c1,c2⟩,⟨d1,d2⟩,⟨e1,e2⟩⟩:=h;exact⟨a1,a2,a3,a4,a5,a6,b1,b2,c1,c2,d1,d2,e1,e2⟩
theorem VY {H:Type} {enc:TypeId × Value → H} {x:DataW H × List MemPlace} (hl : cs.length = 17)
    (h2 : DataW.trod enc prog W 0 (fun _ => true) true fuel 46 cs = some x) :
    ∃(r:PR) (vm vo vi vl:Value),cs=nc r vm vo vi vl∧bA 0 W r vm vo vi vl∧yL (Rows.uptoBulk x.1) r:=by
  obtain⟨xs,k,hk,WD,_,RZ,hf⟩:=yt underlying46 h2
  match xs,RZ,cs,hl with
  | [y0, y1, y2, y3, y4, y5, y6, y7, y8, y9, y10, y11], _, [v0, v1, v2, v3, v4, v5, v6, v7, v8, v9, v10, v11, v12, v13, v14, v15, v16], _ =>
    have g0:=hf 0 _ rfl
    have g1:=hf 1 _ rfl
    have g2:=hf 2 _ rfl
    have g3:=hf 3 _ rfl
    have g4:=hf 4 _ rfl
    have g5:=hf 5 _ rfl
    have g6:=hf 6 _ rfl
    have g7:=hf 7 _ rfl
    have g8:=hf 8 _ rfl
    have g9:=hf 9 _ rfl
    have g10:=hf 10 _ rfl
    have g11:=hf 11 _ rfl
    clear hf
    simp[Me,Gc,O9,Zf,Pa,Zg,Zh]at g0 g1 g2 g3 g4 g5 g6 g7 g8 g9 g10 g11
    obtain⟨ws,k7,_,hw,_,hwl,hf7⟩:=yt underlying41 g7
    obtain⟨ns,k9,_,hn,_,Lv,hf9⟩:=yt underlying44 g9
    match ws,hwl,ns,Lv with
    | [w0, w1], _, [n0, n1, n2, n3, n4], _ =>
      have g70:=hf7 0 _ rfl
      have g71:=hf7 1 _ rfl
      have g90:=hf9 0 _ rfl
      have g91:=hf9 1 _ rfl
      have g92:=hf9 2 _ rfl
      have g93:=hf9 3 _ rfl
      have g94:=hf9 4 _ rfl
      clear hf7 hf9 g7 g9
      simp[Me,Gc,O9,Pa]at g70 g71 g90 g91 g92 g93 g94
      obtain⟨z0,e0,f0,_⟩:=Ek underlying3 g0
      obtain⟨z1,e1,f1,_⟩:=Ek underlying3 g1
      obtain⟨z2,e2,f2,_⟩:=vt underlying9 g2
      obtain⟨z3,e3,f3,_⟩:=vt underlying9 g3
      obtain⟨z4,m4,b4,q4⟩:=Rs g4
      obtain⟨z5,e5,f5,_⟩:=vt underlying9 g5
      obtain⟨z6,e6,f6,_⟩:=vt underlying9 g6
      obtain⟨z7,e7,f7,_⟩:=vt underlying9 g70
      obtain⟨z8,e8,f8,_⟩:=vt underlying9 g71
      obtain⟨z9,e9,f9⟩:=IF underlying4 g8
      obtain⟨z10,Lt,f10⟩:=IF underlying4 g90
      obtain⟨z11,e11,f11⟩:=IF underlying4 g91
      obtain⟨z12,m12,b12,q12⟩:=xT g92
      obtain⟨z13,e13,f13,_⟩:=Ek underlying3 g93
      obtain⟨z14,m14,b14,q14⟩:=xT g94
      obtain⟨z15,e15,f15⟩:=IF underlying4 g10
      obtain⟨z16,m16,b16,q16⟩:=xT g11
      simp only[u6,kJ]at e0 e1 e2 e3 e5 e6 e7 e8 e9 Lt e11 e13 e15
      subst e0 e1 e2 e3 e5 e6 e7 e8 e9 Lt e11 e13 e15
      subst f0 f1 f2 f3 f5 f6 f7 f8 f9 f10 f11 f13 f15
      have eC:=cn Prod.fst hw
      have AE:=cn Prod.fst hn
      have lh:=cn Prod.fst WD
      simp only[mq,mY]at eC AE lh
      rw[eC,AE]at lh
      rw[lh]
      refine⟨⟨z0,z1,z2,z3,z4,z5,z6,z7,z8,z9,z10,z11,z12,z13,z14,z15,z16⟩,v4,v12,v14,v16,rfl,⟨m4,m12,m14,m16⟩,?_⟩
      simp only[Rows.uptoBulk,Rows.uptoBulkAll,af]
      refine⟨⟨by simp only;omega,by simp only;omega,by simp only;omega,by simp only;omega,by simp only;omega,by simp only;omega⟩,⟨by simp only;omega,fun m hm=>by have:=q4 m hm;omega⟩,⟨by simp only;omega,fun m hm=>by have:=q12 m hm;omega⟩,⟨by simp only;omega,fun m hm=>by have:=q14 m hm;omega⟩,⟨by simp only;omega,fun m hm=>by have:=q16 m hm;omega⟩⟩
theorem Fs {H:Type} {enc:TypeId×Value→H} {x:DataW H×List MemPlace} 
  (hf:DataW.trod enc prog W 0 (fun _=>true) true fuel 22 [v]=some x):
  ∃rs:List PR,jr 0 W v rs∧(∃a c,v= .slice a rs.length c∧rs.length≤c)∧rs.length≤Rows.uptoBulk x.1∧ ∀r∈rs,yL (Rows.uptoBulk x.1) r:=by
 rcases open_slice underlying22 hf with⟨bf,hx⟩|⟨a,len,cap,m,n,D,Pl,bf,_,hl,hm,Lw,hx,NR⟩
 ·obtain rfl:v= .slice none 0 0:=by simpa using bf
  exact⟨[],⟨none,0,rfl,fun j h=>absurd h (by simp)⟩,⟨none,0,rfl,aS _⟩,aV _,fun s h=>by cases h⟩
 ·obtain rfl:v= .slice (some a) len cap:=by simpa using bf
  subst hx;simp only[kK]at Lw;subst Lw;have each: ∀i,i<len→ ∃q:PR×Value×Value×Value×Value,W.cells? 0 (a.add (i*17)) 17=some (nc q.1 q.2.1 q.2.2.1 q.2.2.2.1 q.2.2.2.2)∧bA 0 W q.1 q.2.1 q.2.2.1 q.2.2.2.1 q.2.2.2.2∧yL (Rows.uptoBulk (D i)) q.1:=by
   intro i hi;obtain⟨cs',h1,h2⟩:=NR i (by omega);rw[aco]at h1;obtain⟨_,hlen,fm⟩:=Eg h1;obtain⟨r,vm,vo,vi,vl,rfl,q1,q2⟩:=VY hlen h2;exact⟨⟨r,vm,vo,vi,vl⟩,h1,q1,q2⟩
  obtain⟨q,hq⟩:=choose_lt each;have hbD: ∀i,i<len→Rows.uptoBulk (D i)≤Rows.uptoBulkAll ((List.range len).map D):=fun i hi=>wD (tz.2 ⟨i,qj.2 hi,rfl⟩)
  have oe:=pU ((List.range len).map D);rw[ln,List.length_range]at oe;have fm: ∀j,j<len→ ∀k (hk:k<17),W.cell? ((a.add (j*17)).add k)=some ((nc (q j).1 (q j).2.1 (q j).2.2.1 (q j).2.2.2.1 (q j).2.2.2.2)[k]'(by simp[nc];omega)):=fun j hj k hk=>by
   obtain⟨_,hlen,fm⟩:=Eg (hq j hj).1;exact(fm k hk).trans (lJ _)
  refine⟨(List.range len).map fun i=>(q i).1,?_,⟨some a,m,by simp,by simpa using hl⟩,by simp only[ln,List.length_range,Rows.uptoBulk];omega,fun s hs=>?_⟩
  ·obtain⟨b,off,spot⟩:=a;refine⟨some ⟨b,off,spot⟩,m,by simp,fun j hj=>?_⟩;have KR:j<len:=by simpa using hj
   have IV:spot=none:=by simpa [Addr.add]using World.cell?_spot (fm 0 (by omega) 0 (by omega))
   subst IV;have e:((List.range len).map fun i=>(q i).1)[j]=(q j).1:=by simp
   have h0:=fm j KR 0 (by omega);rw[lE,lE]at h0;rw[e];refine⟨b,off,rfl,aV _,Gx h0,_,_,_,_,(hq j KR).2.1,fun k hk=>?_⟩;have:=fm j KR k hk;rw[lE,lE]at this;exact this
  ·obtain⟨i,hi,rfl⟩:=tz.1 hs;have h1:=hbD i (qj.1 hi);refine(hq i (qj.1 hi)).2.2.up ?_;simp only[Rows.uptoBulk];omega
