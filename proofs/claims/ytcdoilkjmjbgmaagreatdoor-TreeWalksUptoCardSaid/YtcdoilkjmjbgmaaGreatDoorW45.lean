import Derived.Test.YtcdoilkjmjbgmaaGreatDoorW44
import Derived.Test.YtcdoilkjmjbgmaaGreatDoorW36
import Derived.Test.YtcdoilkjmjbgmaaGreatDoorW42
/- Part of the proof of YtcdoilkjmjbgmaaGreatDoorCardX: TvT TvU TkO OpenR. -/
set_option maxRecDepth 100000
set_option maxHeartbeats 4000000
set_option linter.unusedVariables false
set_option linter.unusedSimpArgs false
namespace Go.Proofs.YtcdoilkjmjbgmaaGreatDoor
open Go.RowKit
open Go.Proofs.Tryz
variable {w w':World} {rs:List PR} {n k:Nat} {r:PR} {v:Value} {L:List (Nat×PR)} {e:Ending}
def rowsOf (rs:List PR):List PR:=if cx rs=0 then rs else[]
def gA (w:World) (rs:List PR) (e:Ending) (w':World):Prop:= ∃a n c xs,e= .returned (.tuple #[.slice a n c,.int .i64 (cx rs:Nat)])∧OR w.heap.size w' (.slice a n c) xs (rowsOf rs)∧Below w.heap.size w w'
theorem OR.lo {lo lo':Nat} {W:World} {v:Value} {xs:List WI} {rs:List PR} (h:OR lo W v xs rs) (hl:lo'≤lo):OR lo' W v xs rs:=⟨bW h.own hl,fun z hz=>⟨(h.px z hz).1.lo hl,(h.px z hz).2⟩,h.Dm,h.key⟩
theorem OR.none_ (lo:Nat) (W:World):OR lo W (.slice none 0 0) [] []:=⟨ur _ _ _ _,(fun z h=>by cases h),List.Pairwise.nil,rfl⟩
theorem gA.no (h:cx rs=n) (hn:n≠0) (hb:Below w.heap.size w w'):gA w rs (.returned (.tuple #[.slice none 0 0,.int .i64 (n:Nat)])) w':=
 ⟨none,0,0,[],by rw[h],by unfold rowsOf;rw[h,af hn];exact OR.none_ _ _,hb⟩
theorem sa (h:dz rs=false):cx rs=120:=by unfold cx;rw[h];rfl
theorem KZ (h:ax r=true):0≤r.kids:=by rw[wF h];omega
theorem lU (h:dz rs=true):eU rs=true:=by
 obtain⟨h1,h2,_⟩:=ir h;unfold eU;rw[h1,mA,rl];exact fun r hr=>dQ (KZ (rl.1 h2 r hr))
theorem CK : ∀ (x : List PR) (n : Nat) (r : PR), trees n (x ++ [r]) = true → nk r = 0
  | [], 0, r, h => by simp [trees] at h
  | [], n + 1, r, h => by
    have:=jY.1 (show trees (nk r+n) []=true from h)
    omega
  | q :: x, 0, r, h => by simp [trees] at h
  | q :: x, n + 1, r, h => CK x (nk q + n) r h
theorem NI (hk:k<rs.length) (ht:trees 1 rs=true) (hs:ax rs[k]=true) (h4:rs[k].kind=4):k+1<rs.length:=by
 rcases dD (k+1) rs.length with h|h
 ·exact h
 ·exfalso;have h1:=dW hk;rw[Ol h]at h1;rw[h1]at ht;have h2:=CK _ _ _ ht;have h3:de rs[k].kind rs[k].kids=true:=by
   unfold ax at hs;simp only[kF]at hs;exact hs.1.1
  rw[h4]at h3;simp[de]at h3;unfold nk at h2;omega
theorem RL (h:dz rs=true) (hd: ∃d∈da rs,128<d):cx rs=3:=by
 refine CD h ?_;obtain⟨d,h1,h2⟩:=hd;unfold da at h1;rw[ar (lU h)]at h1;rcases dD 128 (iM rs)with h3|h3
 ·exact h3
 ·have:=Po.1 (show my (aR [1] rs)≤128 from h3) d h1;omega
theorem RM (h:dz rs=true) (hd: ∀d∈da rs,d≤128):cx rs=0:=by
 refine mR.2 ⟨h,Po.2 fun d h1=>hd d ?_⟩;unfold da
 rwa [ar (lU h)]
theorem FD (hk:k<rs.length) {r:PR} (hr:r=rs[k]) (h:rC (rs.take k) (rs.drop k)=true) (hs:ax r=true) (hn:(!decide (r.kind=4)||iy (rs.drop (k+1)))=true):rC (rs.take (k+1)) (rs.drop (k+1))=true:=by
 rw[jM hk,←hr];refine Ct ?_ hs hn
 rwa [nV hk,←hr]at h
theorem RN (h:eA w v rs) (hlen:rs.length≤1048576) (pG: ∀r∈rs,jU r):
  Calls prog 8 #[v] w (gA w rs):=by
 obtain⟨ao,c,rfl,hc⟩:=id h.1;have HD:=aa (Cx h.1 hlen);have HCP:Hid (∀W,Below w.heap.size w W→Calls prog 30 #[.slice ao rs.length c] W (rU W rs)):=aa fun W hb=>V0 ((h.1.below hb).lo (aT _)) (by omega) fun r hr=>(pG r hr).len
 have HC:=aa hc;have xb:=aa pG;clear h hc pG;go_enter func8,ntmps8;go_wp2_with fail;refine HD.out.mono ?_;rintro e w1 ⟨a,n,cd,rfl,ho,hb⟩;obtain⟨rfl,_,hg⟩:=V6 ho;have HO:=aa ho;have HB:=aa hb;have HG:=aa hg;clear ho hb hg HD;cases hd:eU rs with
 |false=>
  have HP:=aa (gA.no (w:=w) (w':=w1) (sa (by cases h:dz rs with|false=>rfl|true=>rw[lU h]at hd;cases hd)) (by decide) HB.out);generalize (da rs).length=nd;clear hd HO HG;go_wp2_with fail;go_ret2;exact HP.out
 |true=>
  have ht:trees 1 rs=true:=by unfold eU at hd;rw[kF]at hd;exact hd.1
  have HT:=aa ht;have WJ:=aa (zj hd);have Xx:(da rs).length≤1048576:=by rw[zj hd];exact hlen
  obtain⟨D,hD⟩: ∃D,D=da rs:=⟨_,rfl⟩;rw[←hD]at HO HG WJ Xx ⊢
  have PI:=aa hD;clear hd ht hD;go_wp2_with fail;go_loopw [6] (fun t6 W=> ∃k:Nat,t6= .int .i64 (k:Int)∧Hid (k≤rs.length∧rC (rs.take k) (rs.drop k)=true∧Below w1.heap.size w1 W)) (fun t6 _=>rs.length-(intOf t6).toNat)
  case atStart=>exact⟨0,rfl,aa ⟨aT _,by simp[rC],aS _ _⟩⟩
  case round=>
   obtain⟨k,rfl,hI⟩:=hrel;by_cases au:k<rs.length
   ·have p1:((k:Int)<(rs.length:Int))=True:=az (by omega);obtain⟨g,o,rfl,_,hg,vm,vo,vi,vl,mj,aZ⟩:=HC.out k au;obtain⟨r,hr⟩: ∃r,r=rs[k]:=⟨_,rfl⟩;rw[←hr]at mj aZ;have Ia:Below w.heap.size w wr:=HB.out.trans (hI.out.2.2.mono HB.out.size);have L3:Hid (∀W,Below w.heap.size w W→Calls prog 29 #[jP r vm vo vi vl] W (aC W (ax r))):=aa fun W hb=>Rv (mj.below hb) (xb.out r (by rw[hr];exact gj au))
    obtain⟨⟨am,cm,rfl,_⟩,⟨uf,co,rfl,_⟩,⟨ai,ci,rfl,_⟩,⟨al,cl,rfl,_⟩⟩:=mj;obtain⟨c0,c1,c2,c3,c4,c5,c6,c7,c8,c9,WY,WZ,c12,S5,Li,S6,Iq⟩:=Pk (W:=wr) (o:=o+k*17) fun j hj=>(Ia.cell (p:=⟨g,_,none⟩) hg).trans (aZ j hj)
    simp only[jP]at L3;have HK:Hid (∀W,Below w.heap.size w W→W.cell? ⟨g,o+k*17,none⟩=some (.int .i64 r.kind)):=aa fun W hb=>(hb.cell (p:=⟨g,_,none⟩) hg).trans (aZ 0 (by omega))
    have zO:=aa Ia;have HR:=aa hr;have HNX:Hid (∀(h:k+1<rs.length) (W:World),Below w.heap.size w W→W.cell? ⟨g,o+(k+1)*17,none⟩=some (.int .i64 rs[k+1].kind)):=aa fun h W hb=>by
     obtain⟨g',o',he,_,hg',_,_,_,_,_,Qb⟩:=HC.out (k+1) h;cases he;exact(hb.cell (p:=⟨g,_,none⟩) hg').trans (Qb 0 (by omega))
    clear aZ Ia hr;cases hs:ax r with
    |false=>
     rw[hs]at L3;have HP:Hid (∀W,Below w.heap.size w W→gA w rs (.returned (.tuple #[.slice none 0 0,.int .i64 (120:Nat)])) W):=aa fun W hb=>gA.no (sa (CG au (by rw[←HR.out];exact hs))) (by decide) hb
     clear hs;go_wp2_with (go_at_call 29;(with_reducible refine(L3.out _ zO.out).mono ?_);rintro e W1 ⟨rfl,aU⟩;have bZ:=aa (zO.out.trans (aU.mono zO.out.size));clear aU);go_ret2;exact HP.out _ bZ.out
    |true=>
     rw[hs]at L3;have HS:=aa hs;clear hs;by_cases u6:r.kind=4
     ·have Pz:=NI au HT.out (by rw[←HR.out];exact HS.out) (by rw[←HR.out];exact u6);have q4:(r.kind==4)=true:=by simp[u6]
      have q6:((k:Int)+1<(rs.length:Int))=True:=az (by omega);have HKC:=aa (HNX.out Pz);have Yl:=uO Pz;cases h3:decide (rs[k+1].kind=3)with
      |true=>
       have HN:=aa (FD au HR.out hI.out.2.1 HS.out (by rw[Yl,h3];simp));have q7:(rs[k+1].kind != 3)=false:=by simpa using h3
       generalize rs[k+1].kind=kn at HKC q7;clear h3 Yl u6;go_wp2_with (go_at_call 29;(with_reducible refine(L3.out _ zO.out).mono ?_);rintro e W1 ⟨rfl,aU⟩;have bZ:=aa aU;have k0:=HK.out W1 (zO.out.trans (aU.mono zO.out.size));have k3:=HKC.out W1 (zO.out.trans (aU.mono zO.out.size));clear aU);go_roundw
       case rel=>exact⟨k+1,by go_num,aa ⟨au,HN.out,hI.out.2.2.trans (bZ.out.mono hI.out.2.2.size)⟩⟩
       case measure=>simp[intOf];omega
      |false=>
       have HP:Hid (∀W,Below w.heap.size w W→gA w rs (.returned (.tuple #[.slice none 0 0,.int .i64 (120:Nat)])) W):=aa fun W hb=>gA.no (sa (BY au (by rw[←HR.out];exact u6) (Yl.trans h3))) (by decide) hb
       have q7:(rs[k+1].kind != 3)=true:=by simpa using h3
       generalize rs[k+1].kind=kn at HKC q7;clear h3 Yl u6;go_wp2_with (go_at_call 29;(with_reducible refine(L3.out _ zO.out).mono ?_);rintro e W1 ⟨rfl,aU⟩;have bZ:=aa (zO.out.trans (aU.mono zO.out.size));have k0:=HK.out W1 bZ.out;have k3:=HKC.out W1 bZ.out;clear aU);go_ret2;exact HP.out _ bZ.out
     ·have q4:(r.kind==4)=false:=by simpa using u6
      have HN:=aa (FD au HR.out hI.out.2.1 HS.out (by simp[u6]));clear u6;go_wp2_with (go_at_call 29;(with_reducible refine(L3.out _ zO.out).mono ?_);rintro e W1 ⟨rfl,aU⟩;have bZ:=aa aU;have k0:=HK.out W1 (zO.out.trans (aU.mono zO.out.size));clear aU);go_roundw
      case rel=>exact⟨k+1,by go_num,aa ⟨au,HN.out,hI.out.2.2.trans (bZ.out.mono hI.out.2.2.size)⟩⟩
      case measure=>simp[intOf];omega
   ·have p1:((k:Int)<(rs.length:Int))=False:=bL (by omega);obtain rfl:k=rs.length:=by have:=hI.out.1;omega
    have HSH:Hid (dz rs=true):=aa (by
     have h1:=hI.out.2.1;rw[rh,List.drop_length]at h1;rw[Fb h1];exact HT.out)
    have lD:=aa (aD HO.out (by have:=hI.out.2.2;exact this));have bD:=aa (HB.out.trans (hI.out.2.2.mono HB.out.size));obtain⟨W2,rfl⟩: ∃W2,W2=wr:=⟨_,rfl⟩;clear hI HO HB;go_wp2_with fail;go_loopw [7] (fun t7 W=> ∃j:Nat,t7= .int .i64 (j:Int)∧W=W2∧Hid (j≤D.length∧ ∀i (h:i<D.length),i<j→D[i]≤128)) (fun t7 _=>D.length-(intOf t7).toNat)
    case atStart=>exact⟨0,rfl,rfl,aa ⟨aT _,fun i _ h=>absurd h (Nat.not_lt_zero _)⟩⟩
    case round=>
     obtain⟨j,rfl,rfl,hJ⟩:=hrel;by_cases hj:j<D.length
     ·have q1:((j:Int)<(D.length:Int))=True:=az (by omega);obtain⟨g6,rfl⟩:=HG.out (by omega);have c0:=RH lD.out hj;obtain⟨d,hdj⟩: ∃d,d=D[j]:=⟨_,rfl⟩;rw[←hdj]at c0;have HDJ:=aa hdj;clear hdj;by_cases Tu:128<d
      ·have q2:((128:Int)<(d:Int))=True:=az (by omega);have q3:(128<d)=True:=az Tu;have HP:Hid (gA w rs (.returned (.tuple #[.slice none 0 0,.int .i64 (3:Nat)])) wr):=aa (gA.no (RL HSH.out ⟨d,by rw[←PI.out,HDJ.out];exact gj hj,Tu⟩) (by decide) bD.out);clear Tu;go_wp2_with fail;go_ret2;exact HP.out
      ·have q2:((128:Int)<(d:Int))=False:=bL (by omega);have q3:(128<d)=False:=bL Tu;have HN:Hid (j+1≤D.length∧ ∀i (h:i<D.length),i<j+1→D[i]≤128):=aa ⟨hj,fun i h hi=>by
        by_cases XC:i<j
        ·exact hJ.out.2 i h XC
        ·obtain rfl:i=j:=by omega
         rw[←HDJ.out];omega⟩
       clear Tu hJ;go_wp2_with fail;go_roundw
       case rel=>exact⟨j+1,by go_num,by first|rfl|trivial,HN⟩
       case measure=>simp[intOf];omega
     ·have q1:((j:Int)<(D.length:Int))=False:=bL (by omega);have HE:Hid (cx rs=0):=aa (RM HSH.out fun d hd=>by
       rw[←PI.out]at hd;obtain⟨i,hi,rfl⟩:=List.mem_iff_getElem.1 hd;exact hJ.out.2 i hi (by omega))
      clear hJ;go_wp2_with fail;refine(HCP.out _ bD.out).mono ?_;intro e W3 hp;obtain⟨a3,n3,c3,xs,rfl,Xd,cr⟩:=hp.or;have HF:Hid (gA w rs (.returned (.tuple #[.slice a3 n3 c3,.int .i64 (0:Nat)])) W3):=aa ⟨a3,n3,c3,xs,by rw[HE.out],by
       unfold rowsOf;rw[ar HE.out];exact Xd.lo bD.out.size,bD.out.trans (cr.mono bD.out.size)⟩
      clear hp Xd cr;go_wp2_with fail;go_ret2;exact HF.out
structure OS (lo:Nat) (W:World) (v:Value) (zs:List (rk×Value)) (ss:List rk):Prop where
 own:W.ownsRow lo 60 4 v zs.length (zs.flatMap A1)
 x:LY lo W zs
 key:zs.map (·.1)=ss
theorem OS.below {lo:Nat} {W W':World} {v:Value} {zs:List (rk×Value)} {ss:List rk} (h:OS lo W v zs ss) (hb:Below W.heap.size W W'):OS lo W' v zs ss:=⟨aD h.own hb,h.x.below hb,h.key⟩
theorem pw.os (h:pw w L e w') (hL:L.map (·.2)=rs): ∃ao n c zs,e= .returned (.slice ao n c)∧OS w.heap.size w' (.slice ao n c) zs (jT rs)∧Below w.heap.size w w':=by
 obtain⟨vv,zs,rfl,h1,h2,_,h4,h5⟩:=h;obtain⟨ao,n,c,rfl⟩:=bA h2;exact⟨ao,n,c,zs,rfl,⟨h2,h5,by rw[h1,hL]⟩,h4⟩
def cw (z:rk×Value):WI:=⟨0,{zr 0 0 with ms:=z.1.ms},z.2,.slice none 0 0,.slice none 0 0,.slice none 0 0⟩
end Go.Proofs.YtcdoilkjmjbgmaaGreatDoor
namespace Go.Proofs.YtcdoilkjmjbgmaaGreatDoor
open Go.ChangeShapes Go.WideShapes Go.RowKit Go.Deep
open Go.Proofs.Tryz
variable {W:World} {a:Addr} {v:Value} {fuel n k:Nat} {r:PR} {cs:List Value}
theorem Gn:prog.cellsOf 9=1:=by kernel_rfl
theorem Mm:prog.cellsOf 3=1:=by kernel_rfl
theorem Pr:prog.cellsOf 4=1:=by kernel_rfl
theorem Ps:prog.cellsOf 42=1:=by kernel_rfl
theorem Zt:prog.cellsOf 39=1:=by kernel_rfl
theorem acL:prog.cellsOf 65=3:=by kernel_rfl
theorem acM:prog.cellsOf 46=17:=by kernel_rfl
theorem Zu:prog.cellsOf 41=2:=by kernel_rfl
theorem Zv:prog.cellsOf 44=5:=by kernel_rfl
theorem GL (h:W.cell? a=some v):a.block<W.heap.size:=by
 rcases dD a.block W.heap.size with au|lW
 ·exact au
 ·unfold World.cell? at h;rw[vq lW]at h;simp at h
theorem Wa {H:Type} (x:DataW H):1≤Rows.uptoBulk x:=by
 cases x with
 |lit l=>cases l<;>simp[Rows.uptoBulk]
 |nil=>simp[Rows.uptoBulk]
 |ptr d=>simp[Rows.uptoBulk]
 |slice elems spare=>simp[Rows.uptoBulk]
 |agg parts=>simp[Rows.uptoBulk]
 |iface t d=>simp[Rows.uptoBulk]
 |map entries=>simp[Rows.uptoBulk]
 |held h=>simp[Rows.uptoBulk]
theorem qs {H:Type}: ∀(l:List (DataW H)),l.length≤Rows.uptoBulkAll l
 |[]=>by simp[Rows.uptoBulkAll]
 |x::r=>by
  have h1:=Wa x;have h2:=qs r;simp only[Rows.uptoBulkAll,dI];omega
theorem wH {H:Type}: ∀{l:List (DataW H)} {x:DataW H},x∈l→Rows.uptoBulk x≤Rows.uptoBulkAll l
 |y::r,x,h=>by
  rcases gq.1 h with rfl|h
  ·simp only[Rows.uptoBulkAll];omega
  ·have:=wH h;simp only[Rows.uptoBulkAll];omega
theorem yc {H:Type} {enc:TypeId×Value→H} {x:DataW H×List MemPlace} 
  (hf:DataW.trod enc prog W 0 (fun _=>true) true fuel 42 [v]=some x):
  ∃ss:List ByteArray,cL 0 W v ss∧ss.length≤Rows.uptoBulk x.1∧ ∀s∈ss,s.size≤Rows.uptoBulk x.1:=by
 rcases open_strings underlying42 underlying9 Gn hf with⟨aZ,hx⟩|⟨a,len,cap,ss,aZ,_,hl,hm,hz,hx,eo,hws⟩
 ·obtain rfl:v= .slice none 0 0:=by simpa using aZ
  exact⟨[],⟨none,0,rfl,fun j h=>absurd h (by simp)⟩,aT _,fun s h=>by cases h⟩
 ·obtain rfl:v= .slice (some a) len cap:=by simpa using aZ
  subst hx;simp only[kJ]at hz;obtain⟨b,off,spot⟩:=a;have ZO:(ss.take len).length=len:=by simp;omega
  refine⟨ss.take len,⟨some ⟨b,off,spot⟩,cap,by rw[ZO],fun j hj=>?_⟩,?_,?_⟩
  ·have Pw:j<len:=by rw[ZO]at hj;exact hj
   have I6:spot=none:=by simpa [Addr.add]using World.cell?_spot (eo 0 (by omega))
   subst I6;refine⟨b,off,rfl,aT _,GL (eo 0 (by omega)),?_⟩;have:=eo j (by omega);rw[mB]at this;rw[this,IL];have hjs:j<ss.length:=by omega
   simp[List.getD,hjs]
  ·have:=qs (strs (H:=H) (ss.take len));simp only[strs,kG]at this;simp only[Rows.uptoBulk,strs];omega
  ·intro s hs;have h1:DataW.lit (.string s.data.toList)∈strs (H:=H) (ss.take len):=vD.2 ⟨s,hs,rfl⟩;have h2:=wH h1;simp only[Rows.uptoBulk,ab]at h2 ⊢;omega
instance:Inhabited PM:=⟨⟨⟨#[]⟩,0,⟨#[]⟩⟩⟩
instance:Inhabited PR:=⟨⟨0,0,⟨#[]⟩,⟨#[]⟩,[],⟨#[]⟩,⟨#[]⟩,⟨#[]⟩,⟨#[]⟩,false,false,false,[],0,[],false,[]⟩⟩
theorem RO {H:Type} {enc:TypeId × Value → H} {x:DataW H × List MemPlace} 
    (hf : DataW.trod enc prog W 0 (fun _ => true) true fuel 39 [v] = some x) :
    ∃ms:List PM,fU 0 W v ms∧ms.length≤Rows.uptoBulk x.1∧ ∀m∈ms,m.name.size≤Rows.uptoBulk x.1∧m.value.size≤Rows.uptoBulk x.1:=by
  rcases open_slice underlying39 hf with⟨aZ,hx⟩|⟨a,len,cap,m,n,D,Pl,aZ,_,hl,hm,LD,hx,NW⟩
  · obtain rfl : v = .slice none 0 0 := by simpa using aZ
    exact⟨[],⟨none,0,rfl,fun j h=>absurd h (by simp)⟩,aT _,fun s h=>by cases h⟩
  · obtain rfl : v = .slice (some a) len cap := by simpa using aZ
    subst hx
    simp only[kJ]at LD
    subst LD
    have each : ∀ i, i < len → ∃ q : PM, W.cell? (a.add (i * 3)) = some (.string q.name) ∧ W.cell? ((a.add (i * 3)).add 1) = some (.int .i64 q.op) ∧ W.cell? ((a.add (i * 3)).add 2) = some (.string q.value) ∧ q.name.size ≤ Rows.uptoBulk (D i) ∧ q.value.size ≤ Rows.uptoBulk (D i) := by
      intro i hi
      obtain⟨cs',h1,h2⟩:=NW i (by omega)
      rw[acL]at h1
      obtain⟨_,hlen,eo⟩:=Ew h1
      obtain⟨xs,k,hk,WR,_,NZ,hf⟩:=yA underlying65 h2
      match xs,NZ,cs',hlen with
      | [y0, y1, y2], _, [v0, v1, v2], _ =>
        have g0:=hf 0 _ rfl
        have g1:=hf 1 _ rfl
        have g2:=hf 2 _ rfl
        simp[Mm,Gn]at g0 g1 g2
        obtain⟨z0,e0,f0,_⟩:=vu underlying9 g0
        obtain⟨s1,e1,f1,_⟩:=Ez underlying3 g1
        obtain⟨z2,e2,f2,_⟩:=vu underlying9 g2
        have c0:=eo 0 (by omega)
        have c1:=eo 1 (by omega)
        have c2:=eo 2 (by omega)
        simp only[ny,jw]at e0 e1 e2
        subst e0;subst e1;subst e2;subst f0;subst f1;subst f2
        simp only[vz]at WR
        rw[WR.1]
        refine⟨⟨z0,s1,z2⟩,by simpa [Addr.add]using c0,by simpa using c1,by simpa using c2,?_,?_⟩
        · simp [Rows.uptoBulk, Rows.uptoBulkAll]; omega
        · simp [Rows.uptoBulk, Rows.uptoBulkAll]; omega
    obtain⟨q,hq⟩:=choose_lt each
    have hbD: ∀i,i<len→Rows.uptoBulk (D i)≤Rows.uptoBulkAll ((List.range len).map D):=fun i hi=>wH (vD.2 ⟨i,qF.2 hi,rfl⟩)
    have nr:=qs ((List.range len).map D)
    rw[kG,List.length_range]at nr
    refine⟨(List.range len).map q,?_,by simp only[kG,List.length_range,Rows.uptoBulk];omega,fun s hs=>?_⟩
    · obtain ⟨b, off, spot⟩ := a
      refine⟨some ⟨b,off,spot⟩,m,by simp,fun j hj=>?_⟩
      have Pw:j<len:=by simpa using hj
      have I6:spot=none:=by simpa [Addr.add]using World.cell?_spot (hq 0 (by omega)).1
      subst I6
      have e:((List.range len).map q)[j]=q j:=by simp
      rw[e]
      obtain⟨r0,r1,r2,_⟩:=hq j Pw
      rw[mB]at r0 r1 r2
      rw[mB]at r1 r2
      exact⟨b,off,rfl,aT _,GL r0,r0,r1,r2⟩
    · obtain ⟨i, hi, rfl⟩ := vD.1 hs
      have h1:=hbD i (qF.1 hi)
      obtain⟨_,_,_,r3,r4⟩:=hq i (qF.1 hi)
      simp only[Rows.uptoBulk]
      omega
def yQ (n:Nat) (r:PR):Prop:=
 (r.op.size≤n∧r.text.size≤n∧r.bQ.size≤n∧r.step.size≤n∧r.off.size≤n∧r.tim.size≤n)∧(r.ms.length≤n∧ ∀m∈r.ms,m.name.size≤n∧m.value.size≤n)∧(r.mls.length≤n∧ ∀s∈r.mls,s.size≤n)∧(r.inc.length≤n∧ ∀s∈r.inc,s.size≤n)∧(r.labels.length≤n∧ ∀s∈r.labels,s.size≤n)
theorem yQ.up (h:yQ n r) (hk:n≤k):yQ k r:=by
 obtain⟨⟨a1,a2,a3,a4,a5,a6⟩,⟨b1,b2⟩,⟨c1,c2⟩,⟨d1,d2⟩,⟨e1,e2⟩⟩:=h;exact⟨⟨by omega,by omega,by omega,by omega,by omega,by omega⟩,⟨by omega,fun m hm=>by have:=b2 m hm;omega⟩,⟨by omega,fun m hm=>by have:=c2 m hm;omega⟩,⟨by omega,fun m hm=>by have:=d2 m hm;omega⟩,⟨by omega,fun m hm=>by have:=e2 m hm;omega⟩⟩
theorem yQ.small (h:yQ 1048576 r):jU r:=by
 obtain⟨⟨a1,a2,a3,a4,a5,a6⟩,⟨b1,b2⟩,⟨c1,c2⟩,⟨d1,d2⟩,⟨e1,e2⟩⟩:=h;exact⟨a1,a2,a3,a4,a5,a6,b1,b2,c1,c2,d1,d2,e1,e2⟩
theorem Wb {H:Type} {enc:TypeId × Value → H} {x:DataW H × List MemPlace} (hl : cs.length = 17)
    (h2 : DataW.trod enc prog W 0 (fun _ => true) true fuel 46 cs = some x) :
    ∃(r:PR) (vm vo vi vl:Value),cs=lF r vm vo vi vl∧bw 0 W r vm vo vi vl∧yQ (Rows.uptoBulk x.1) r:=by
  obtain⟨xs,k,hk,WR,_,NZ,hf⟩:=yA underlying46 h2
  match xs,NZ,cs,hl with
  | [y0, y1, y2, y3, y4, y5, y6, y7, y8, y9, y10, y11], _, [v0, v1, v2, v3, v4, v5, v6, v7, v8, v9, v10, v11, v12, v13, v14, v15, v16], _ =>
    have g0:=hf 0 _ rfl
    have g1:=hf 1 _ rfl
    have g2:=hf 2 _ rfl
    have g3:=hf 3 _ rfl
    have g4:=hf 4 _ rfl
    have g5:=hf 5 _ rfl
    have g6:=hf 6 _ rfl
    have g7:=hf 7 _ rfl
    have g8:=hf 8 _ rfl
    have g9:=hf 9 _ rfl
    have g10:=hf 10 _ rfl
    have g11:=hf 11 _ rfl
    clear hf
    simp[Mm,Gn,Pr,Zt,Ps,Zu,Zv]at g0 g1 g2 g3 g4 g5 g6 g7 g8 g9 g10 g11
    obtain⟨ws,k7,_,hw,_,hwl,hf7⟩:=yA underlying41 g7
    obtain⟨ns,k9,_,hn,_,Lz,hf9⟩:=yA underlying44 g9
    match ws,hwl,ns,Lz with
    | [w0, w1], _, [n0, n1, n2, n3, n4], _ =>
      have g70:=hf7 0 _ rfl
      have g71:=hf7 1 _ rfl
      have g90:=hf9 0 _ rfl
      have g91:=hf9 1 _ rfl
      have g92:=hf9 2 _ rfl
      have g93:=hf9 3 _ rfl
      have g94:=hf9 4 _ rfl
      clear hf7 hf9 g7 g9
      simp[Mm,Gn,Pr,Ps]at g70 g71 g90 g91 g92 g93 g94
      obtain⟨z0,e0,f0,_⟩:=Ez underlying3 g0
      obtain⟨z1,e1,f1,_⟩:=Ez underlying3 g1
      obtain⟨z2,e2,f2,_⟩:=vu underlying9 g2
      obtain⟨z3,e3,f3,_⟩:=vu underlying9 g3
      obtain⟨z4,m4,b4,q4⟩:=RO g4
      obtain⟨z5,e5,f5,_⟩:=vu underlying9 g5
      obtain⟨z6,e6,f6,_⟩:=vu underlying9 g6
      obtain⟨z7,e7,f7,_⟩:=vu underlying9 g70
      obtain⟨z8,e8,f8,_⟩:=vu underlying9 g71
      obtain⟨z9,e9,f9⟩:=IT underlying4 g8
      obtain⟨z10,Lu,f10⟩:=IT underlying4 g90
      obtain⟨z11,e11,f11⟩:=IT underlying4 g91
      obtain⟨z12,m12,b12,q12⟩:=yc g92
      obtain⟨z13,e13,f13,_⟩:=Ez underlying3 g93
      obtain⟨z14,m14,b14,q14⟩:=yc g94
      obtain⟨z15,e15,f15⟩:=IT underlying4 g10
      obtain⟨z16,m16,b16,q16⟩:=yc g11
      simp only[ny,jw]at e0 e1 e2 e3 e5 e6 e7 e8 e9 Lu e11 e13 e15
      subst e0 e1 e2 e3 e5 e6 e7 e8 e9 Lu e11 e13 e15
      subst f0 f1 f2 f3 f5 f6 f7 f8 f9 f10 f11 f13 f15
      have ey:=bT Prod.fst hw
      have AK:=bT Prod.fst hn
      have lg:=bT Prod.fst WR
      simp only[mv,oI]at ey AK lg
      rw[ey,AK]at lg
      rw[lg]
      refine⟨⟨z0,z1,z2,z3,z4,z5,z6,z7,z8,z9,z10,z11,z12,z13,z14,z15,z16⟩,v4,v12,v14,v16,rfl,⟨m4,m12,m14,m16⟩,?_⟩
      simp only[Rows.uptoBulk,Rows.uptoBulkAll,ab]
      refine⟨⟨by simp only;omega,by simp only;omega,by simp only;omega,by simp only;omega,by simp only;omega,by simp only;omega⟩,⟨by simp only;omega,fun m hm=>by have:=q4 m hm;omega⟩,⟨by simp only;omega,fun m hm=>by have:=q12 m hm;omega⟩,⟨by simp only;omega,fun m hm=>by have:=q14 m hm;omega⟩,⟨by simp only;omega,fun m hm=>by have:=q16 m hm;omega⟩⟩
theorem RP {H:Type} {enc:TypeId×Value→H} {x:DataW H×List MemPlace} 
  (hf:DataW.trod enc prog W 0 (fun _=>true) true fuel 22 [v]=some x):
  ∃rs:List PR,oM 0 W v rs∧(∃a c,v= .slice a rs.length c∧rs.length≤c)∧rs.length≤Rows.uptoBulk x.1∧ ∀r∈rs,yQ (Rows.uptoBulk x.1) r:=by
 rcases open_slice underlying22 hf with⟨aZ,hx⟩|⟨a,len,cap,m,n,D,Pl,aZ,_,hl,hm,LD,hx,NW⟩
 ·obtain rfl:v= .slice none 0 0:=by simpa using aZ
  exact⟨[],⟨none,0,rfl,fun j h=>absurd h (by simp)⟩,⟨none,0,rfl,aP _⟩,aT _,fun s h=>by cases h⟩
 ·obtain rfl:v= .slice (some a) len cap:=by simpa using aZ
  subst hx;simp only[kJ]at LD;subst LD;have each: ∀i,i<len→ ∃q:PR×Value×Value×Value×Value,W.cells? 0 (a.add (i*17)) 17=some (lF q.1 q.2.1 q.2.2.1 q.2.2.2.1 q.2.2.2.2)∧bw 0 W q.1 q.2.1 q.2.2.1 q.2.2.2.1 q.2.2.2.2∧yQ (Rows.uptoBulk (D i)) q.1:=by
   intro i hi;obtain⟨cs',h1,h2⟩:=NW i (by omega);rw[acM]at h1;obtain⟨_,hlen,eo⟩:=Ew h1;obtain⟨r,vm,vo,vi,vl,rfl,q1,q2⟩:=Wb hlen h2;exact⟨⟨r,vm,vo,vi,vl⟩,h1,q1,q2⟩
  obtain⟨q,hq⟩:=choose_lt each;have hbD: ∀i,i<len→Rows.uptoBulk (D i)≤Rows.uptoBulkAll ((List.range len).map D):=fun i hi=>wH (vD.2 ⟨i,qF.2 hi,rfl⟩)
  have nr:=qs ((List.range len).map D);rw[kG,List.length_range]at nr;have eo: ∀j,j<len→ ∀k (hk:k<17),W.cell? ((a.add (j*17)).add k)=some ((lF (q j).1 (q j).2.1 (q j).2.2.1 (q j).2.2.2.1 (q j).2.2.2.2)[k]'(by simp[lF];omega)):=fun j hj k hk=>by
   obtain⟨_,hlen,eo⟩:=Ew (hq j hj).1;exact(eo k hk).trans (lB _)
  refine⟨(List.range len).map fun i=>(q i).1,?_,⟨some a,m,by simp,by simpa using hl⟩,by simp only[kG,List.length_range,Rows.uptoBulk];omega,fun s hs=>?_⟩
  ·obtain⟨b,off,spot⟩:=a;refine⟨some ⟨b,off,spot⟩,m,by simp,fun j hj=>?_⟩;have Pw:j<len:=by simpa using hj
   have I6:spot=none:=by simpa [Addr.add]using World.cell?_spot (eo 0 (by omega) 0 (by omega))
   subst I6;have e:((List.range len).map fun i=>(q i).1)[j]=(q j).1:=by simp
   have h0:=eo j Pw 0 (by omega);rw[mB,mB]at h0;rw[e];refine⟨b,off,rfl,aT _,GL h0,_,_,_,_,(hq j Pw).2.1,fun k hk=>?_⟩;have:=eo j Pw k hk;rw[mB,mB]at this;exact this
  ·obtain⟨i,hi,rfl⟩:=vD.1 hs;have h1:=hbD i (qF.1 hi);refine(hq i (qF.1 hi)).2.2.up ?_;simp only[Rows.uptoBulk];omega
