import Derived.Test.YtcdoilkjmjbgmaaGreatDoorW51
import Derived.Test.YtcdoilkjmjbgmaaGreatDoorW43
/- Part of the proof of YtcdoilkjmjbgmaaGreatDoorCardX: TvS TkL TkD TkE TkF TkG TkH TkI. -/
set_option maxRecDepth 100000
set_option maxHeartbeats 4000000
set_option linter.unusedVariables false
set_option linter.unusedSimpArgs false
namespace Go.Proofs.YtcdoilkjmjbgmaaGreatDoor
open Go.RowKit
open Go.Proofs.Tryz
variable {w wr W1 W2 W W' w':World} {b g n c k j b' z lo N sz b1 b2 s1 s2 n1 n2 hi size g0 k2 sz2 k7 k8 k9 H6:Nat} {e e1 e2:TypeId} {a:Option Addr} {rs:List PR} {zs:List (rk×Value)} {vv v' vm x y x' y' z' u v v1 v2 t s av gv gv' t' t2 t7 t8 t9 t10:Value} {r:PR} {A B ys M O I L x1 x2 X us A2 xs:List Value} {ms:List PM}
theorem Po {l:List Nat} {m:Nat} :my l≤m↔ ∀x∈l,x≤m:=by
 induction l with
 |nil=>simp[my]
 |cons a l ih=>rw[pg,Nat.max_le,ih];simp
theorem RH {l:List Nat} (h:w.ownsRow b e 1 (.slice (some ⟨g,0,none⟩) n c) n (l.map pV)) {j:Nat} (hj:j<l.length):w.cell? ⟨g,j,none⟩=some (.int .i64 (l[j]:Int)):=by
 have hl:l.length=n:=by have:=h.1;simpa using this
 rw[h.cellAt j (by omega)];exact(lB (by simpa using hj)).trans (by rw[List.getElem_map];rfl)
theorem V6 {m:Nat} {l:List Nat} (h:w.ownsRow b e 1 (.slice a n c) m (l.map pV)):n=l.length∧m=l.length∧(0<l.length→ ∃g,a=some ⟨g,0,none⟩):=by
 have hl:l.length=m:=by have:=h.1;simpa using this
 rcases h.2 with⟨hv,h0⟩|⟨g,cap,cur,hv,_⟩
 ·injection hv with e1 e2 e3
  exact⟨by omega,hl.symm,fun h=>by omega⟩
 ·injection hv with e1 e2 e3
  exact⟨by omega,hl.symm,fun _=>⟨g,e1⟩⟩
def abP (w:World) (rs:List PR) (k:Nat) (vv:Value) (W:World):Prop:=
 ∃zs:List (rk×Value),zs.map (·.1)=jT (rs.take k)∧W.ownsRow w.heap.size 60 4 vv zs.length (zs.flatMap A1)∧(∀z∈zs,xy w.heap.size W z.2 z.1.ms)∧Below w.heap.size w W
theorem abP.len {w W:World} {vv:Value} (h1:zs.map (·.1)=jT (rs.take k)):zs.length≤rs.length:=by
 have e:=bT List.length h1;rw[kG]at e;have:(jT (rs.take k)).length≤(rs.take k).length:=by
  unfold jT;rw[kG];exact List.length_filter_le _ _
 rw[nZ]at this;omega
theorem abP.push (h1:zs.map (·.1)=jT (rs.take k)) (ho:wr.ownsRow w.heap.size 60 4 vv zs.length (zs.flatMap A1)) (hm: ∀z∈zs,xy w.heap.size wr z.2 z.1.ms) (hb:Below w.heap.size w wr)
  (hk:k<rs.length) (hr:r=rs[k]) (h3:r.kind=3) (aU:Below wr.heap.size wr W1) (hv:xy wr.heap.size W1 vm r.ms) (AM:W2.ownsRow w.heap.size 60 4 v' (zs.length+1) (zs.flatMap A1++[.string r.text,vm,.string r.off,.string r.tim])) (hg:W1.grownBy W2 vv.ownBlock):abP w rs (k+1) v' W2:=by
 subst hr;have uY:=aD ho aU;refine⟨zs++[(⟨rs[k].text,rs[k].ms,rs[k].off,rs[k].tim⟩,vm)],?_,?_,?_,(hb.trans (aU.mono hb.size)).grown hg (bn hb.size aU.size) (fun q hq=>(uY.lt q hq).1)⟩
 ·rw[mZ,mv,oI,jM hk,zF,ar h3,h1]
 ·rw[yv,fT];simpa [A1]using AM
 ·intro z hz;rcases tE.1 hz with hz|hz
  ·exact(aD (hm z hz) aU).kept hg (cI (aD (hm z hz) aU) uY (by decide))
  ·rw[u9.1 hz];exact bW (hv.kept hg (cI hv uY (by decide))) hb.size
def Oh (z:Nat):List Value:=[.string ⟨#[109,97,114,107,101,100]⟩,.int .i64 (z:Int),.string ⟨#[]⟩]
structure Mk (b:Nat) (W:World) (j:Nat) (x:WI):Prop where
 m:W.ownsRow b 65 3 x.m x.r.ms.length ((List.replicate x.r.ms.length (j*4+100)).flatMap Oh)
 o:W.ownsRow b 9 1 x.o x.r.mls.length (List.replicate x.r.mls.length (.string (iF (j*4+2))))
 i:W.ownsRow b 9 1 x.i x.r.inc.length (List.replicate x.r.inc.length (.string (iF (j*4+3))))
 l:W.ownsRow b 9 1 x.l x.r.labels.length (List.replicate x.r.labels.length (.string (iF (j*4+1))))
theorem Mk.below {x:WI} (h:Mk b W j x) (hb:Below W.heap.size W W'):Mk b W' j x:=⟨aD h.m hb,aD h.o hb,aD h.i hb,aD h.l hb⟩
theorem RI {xs:List WI} (ho : w.ownsRow b 46 17 vv xs.length (xs.flatMap WI.cs)) (hm : ∀ j (h : j < xs.length), Mk b' w j xs[j]) (hn : xs.length ≤ 4294967296) (hl : ∀ x ∈ xs, iO x.r) :
    Calls prog 40 #[vv] w (aC w true):=by
  obtain⟨ao,c,rfl,hc⟩:=mL WI.cs 17 (fun _=>rfl) xs ho
  have HC:=aa hc
  have HM:=aa hm
  have HL:=aa hl
  clear hc hm ho hl
  go_enter func40,ntmps40
  go_wp2_with fail
  go_loopw [3] (fun t3 W=> ∃j:Nat,t3= .int .i64 (j:Int)∧Hid (j≤xs.length)∧Hid (Below w.heap.size w W)) (fun t3 _=>xs.length-(intOf t3).toNat)
  case atStart=>exact⟨0,rfl,aa (aT _),aa (aS _ _)⟩
  case round =>
    obtain⟨j,rfl,hj,hb⟩:=hrel
    by_cases au:j<xs.length
    · have p1 : ((j : Int) < (xs.length : Int)) = True := az (by omega)
      obtain⟨g,o,rfl,_,hg,eo⟩:=HC.out j au
      obtain⟨x,hx⟩: ∃x,x=xs[j]:=⟨_,rfl⟩
      have Eh:=HM.out j au
      have hlx:=HL.out xs[j] (gj au)
      rw[←hx]at Eh hlx eo
      clear hx
      obtain⟨am,cm,η,hmc⟩:=mL Oh 3 (fun _=>rfl) (List.replicate x.r.ms.length (j*4+100)) (by rw[uh];exact Eh.m)
      rw[uh]at η
      have XB : Hid (∀ W, Below w.heap.size w W → W.cell? ⟨g, o + j * 17 + 4, none⟩ = some (.slice am x.r.ms.length cm) ∧ W.cell? ⟨g, o + j * 17 + 12, none⟩ = some x.o ∧ W.cell? ⟨g, o + j * 17 + 14, none⟩ = some x.i ∧ W.cell? ⟨g, o + j * 17 + 16, none⟩ = some x.l) := aa fun W Ia => by
        have h:=fun k hk=>(Ia.cell (p:=⟨g,o+j*17+k,none⟩) hg).trans (eo k hk)
        exact⟨(h 4 (by omega)).trans (bT some η),h 12 (by omega),h 14 (by omega),h 16 (by omega)⟩
      have HMC : Hid (∀ W, Below w.heap.size w W → ∀ k, k < x.r.ms.length → ∃ gm om, am = some ⟨gm, om, none⟩ ∧ W.cell? ⟨gm, om + k * 3 + 1, none⟩ = some (.int .i64 ((j : Int) * 4 + 100))) := aa fun W Ia k hk => by
        obtain⟨gm,om,ha,_,hgm,hcc⟩:=hmc k (by rw[uh];exact hk)
        refine⟨gm,om,ha,(Ia.cell (p:=⟨gm,om+k*3+1,none⟩) hgm).trans ((hcc 1 (by omega)).trans ?_)⟩
        simp[Oh]
      have HH : Hid (∀ W, Below w.heap.size w W → Calls prog 67 #[x.o, .int .i64 ((j : Int) * 4 + 2)] W (aC W true) ∧ Calls prog 67 #[x.i, .int .i64 ((j : Int) * 4 + 3)] W (aC W true) ∧ Calls prog 67 #[x.l, .int .i64 ((j : Int) * 4 + 1)] W (aC W true)) := aa fun W Ia =>
        ⟨by have := BZ (aD Eh.o Ia) hlx.2.1 (show j * 4 + 2 < 1099511627776 by omega); rw [show ((j * 4 + 2 : Nat) : Int) = (j : Int) * 4 + 2 by omega] at this; exact this,
         by have:=BZ (aD Eh.i Ia) hlx.2.2.1 (show j*4+3<1099511627776 by omega);rw[show ((j*4+3:Nat):Int)=(j:Int)*4+3 by omega]at this;exact this,
         by have:=BZ (aD Eh.l Ia) hlx.2.2.2 (show j*4+1<1099511627776 by omega);rw[show ((j*4+1:Nat):Int)=(j:Int)*4+1 by omega]at this;exact this⟩
      have S9:x.r.ms.length≤1099511627776:=hlx.1
      clear Eh hlx eo hmc η
      obtain⟨c4,c12,Li,Iq⟩:=XB.out wr hb.out
      go_wp2_with fail
      go_loopw [4] (fun t4 W=> ∃k:Nat,t4= .int .i64 (k:Int)∧Hid (k≤x.r.ms.length)∧W=wr) (fun t4 _=>x.r.ms.length-(intOf t4).toNat)
      case atStart=>exact⟨0,rfl,aa (aT _),rfl⟩
      case round =>
        obtain⟨k,rfl,hk,rfl⟩:=hrel
        by_cases nU:k<x.r.ms.length
        · have p2 : ((k : Int) < (x.r.ms.length : Int)) = True := az (by omega)
          obtain⟨gm,om,rfl,cM⟩:=HMC.out _ hb.out k nU
          go_wp2_with fail
          go_roundw
          case rel=>exact⟨k+1,by go_num,aa nU,trivial⟩
          case measure=>simp[intOf];omega
        · have p2 : ((k : Int) < (x.r.ms.length : Int)) = False := bL (by omega)
          go_wp2_with fail
          refine(HH.out _ hb.out).2.2.mono ?_
          rintro e W1 ⟨rfl,aU⟩
          have bZ:Hid (Below w.heap.size w W1):=aa (hb.out.trans (aU.mono hb.out.size))
          obtain⟨_,d12,d14,_⟩:=XB.out _ bZ.out
          clear aU
          go_wp2_with fail
          refine(HH.out _ bZ.out).1.mono ?_
          rintro e W2 ⟨rfl,aM⟩
          have bD:Hid (Below w.heap.size w W2):=aa (bZ.out.trans (aM.mono bZ.out.size))
          obtain⟨_,e12,e14,_⟩:=XB.out _ bD.out
          clear aM
          go_wp2_with fail
          refine(HH.out _ bD.out).2.1.mono ?_
          rintro e W3 ⟨rfl,cr⟩
          have iR:Hid (Below w.heap.size w W3):=aa (bD.out.trans (cr.mono bD.out.size))
          clear cr
          go_wp2_with fail
          go_roundw
          case rel=>exact⟨j+1,by go_num,aa au,iR⟩
          case measure=>simp[intOf];omega
    · have p1 : ((j : Int) < (xs.length : Int)) = False := bL (by omega)
      go_wp2_with fail
      go_ret
      exact⟨rfl,hb.out⟩
theorem NH {z:Value} (h:W.ownsRow b e 3 (.slice (some ⟨g,0,none⟩) n c) n (A++[x,y,z]++B)) (hk:A.length=k):
  (((W.setCell ⟨g,k,none⟩ x').setCell ⟨g,k+1,none⟩ y').setCell ⟨g,k+2,none⟩ z').ownsRow b e 3 (.slice (some ⟨g,0,none⟩) n c) n (A++[x',y',z']++B)∧W.grownBy (((W.setCell ⟨g,k,none⟩ x').setCell ⟨g,k+1,none⟩ y').setCell ⟨g,k+2,none⟩ z') (some g):=by
 subst hk;obtain⟨h1,g1⟩:=h.stored A.length x';obtain⟨h2,g2⟩:=h1.stored (A.length+1) y';obtain⟨h3,g3⟩:=h2.stored (A.length+2) z';refine⟨?_,dh (dh g1 g2) g3⟩;simpa [Om]using h3
def fQ (lo hi:Nat) (w W:World):Prop:=Below lo w W∧iH hi w W∧(∀t,t≠9→t≠65→gU t w W)∧KeepsFrom 0 w W
theorem fQ.refl (lo hi:Nat) (w:World):fQ lo hi w w:=⟨aS _ _,iH.refl _ _,fun t _ _=>gU.refl t w,aP _,fun _ _ _ h _=>h⟩
theorem fQ.below {lo hi:Nat} {w W W':World} (h:fQ lo hi w W) (hl:lo≤w.heap.size) (hb:Below W.heap.size W W'):fQ lo hi w W':=⟨h.1.trans (hb.mono (bn hl h.1.size)),h.2.1.below hb,fun t a b=>(h.2.2.1 t a b).trans (gU.ia hb),h.2.2.2.trans (lA hb)⟩
theorem fQ.grow {lo hi:Nat} {w W W':World} {v:Value} (h:fQ lo hi w W) (hl:lo≤w.heap.size) (hg:W.grownBy W' v.ownBlock) (hv: ∀q,v.ownBlock=some q→lo≤q∧(q<hi∨w.heap.size≤q)) (hk:(∀t,t≠9→t≠65→gU t W W')∧KeepsFrom 0 W W'):fQ lo hi w W':=
 ⟨h.1.grown hg (bn hl h.1.size) fun q e=>(hv q e).1,h.2.1.grow hg fun q e=>(hv q e).2,fun t a b=>(h.2.2.1 t a b).trans (hk.1 t a b),h.2.2.2.trans hk.2⟩
def WI.ah0 (hi:Nat) (x:WI):Prop:= ∀u∈[x.m,x.o,x.i,x.l],∀g,u.ownBlock=some g→g<hi
def Dz (lo b:Nat) (vv:Value) (xs:List WI) (j:Nat) (W:World):Prop:=
 W.ownsRow b 46 17 vv xs.length (xs.flatMap WI.cs)∧ ∀i (h:i<xs.length),(i<j→Mk lo W i xs[i])∧(j≤i→dA lo W xs[i].r xs[i].m xs[i].o xs[i].i xs[i].l)
theorem Dz.below {lo b j:Nat} {vv:Value} {xs:List WI} {W W':World} (h:Dz lo b vv xs j W) (hb:Below W.heap.size W W'):Dz lo b vv xs j W':=
 ⟨aD h.1 hb,fun i hi=>⟨fun h'=>((h.2 i hi).1 h').below hb,fun h'=>((h.2 i hi).2 h').below hb⟩⟩
theorem cJ.row (h:cJ u v):u.ownBlock=none∨u.ownBlock≠v.ownBlock:=by
 cases e:u.ownBlock with
 |none=>exact .inl rfl
 |some g=>exact .inr fun e'=>h g e e'.symm
theorem Mk.off {i:Nat} {x:WI} (h:Mk lo W i x) (hg:W.grownBy W' v.ownBlock) (hv: ∀u∈[x.m,x.o,x.i,x.l],cJ u v):Mk lo W' i x:=
 ⟨h.m.kept hg (hv _ (by simp)).row,h.o.kept hg (hv _ (by simp)).row,h.i.kept hg (hv _ (by simp)).row,h.l.kept hg (hv _ (by simp)).row⟩
theorem dA.off {x:WI} (h:dA lo W x.r x.m x.o x.i x.l) (hg:W.grownBy W' v.ownBlock) (hv: ∀u∈[x.m,x.o,x.i,x.l],cJ u v):dA lo W' x.r x.m x.o x.i x.l:=
 ⟨h.m.kept hg (hv _ (by simp)).row,h.o.kept hg (hv _ (by simp)).row,h.i.kept hg (hv _ (by simp)).row,h.l.kept hg (hv _ (by simp)).row,h.oi,h.ol,h.il⟩
def WI.ls (x:WI):List Value:=[x.m,x.o,x.i,x.l]
def Lk (lo b:Nat) (vv:Value) (xs:List WI) (i N:Nat) (W:World):Prop:=
 W.ownsRow b 46 17 vv xs.length (xs.flatMap WI.cs)∧ ∀j (h:j<xs.length),j≠i→(j<N→Mk lo W j xs[j])∧(N≤j→dA lo W xs[j].r xs[j].m xs[j].o xs[j].i xs[j].l)
structure Fx (w:World) (lo hi:Nat) (xs:List WI):Prop where
 Dm:xs.Pairwise WI.XP
 under: ∀x∈xs,x.ah0 hi
 oil: ∀x∈xs,cJ x.o x.i∧cJ x.o x.l∧cJ x.i x.l
 len: ∀x∈xs,iO x.r
 lo:lo≤w.heap.size
 hi:hi≤w.heap.size
theorem Uo {xs:List WI} (h:xs.Pairwise WI.XP) {i j:Nat} (hi:i<xs.length) (hj:j<xs.length) (bC:j≠i): ∀u∈xs[j].ls,∀v∈xs[i].ls,cJ u v:=by
 intro u hu v hv;rcases Nat.lt_or_gt_of_ne bC with h1|h1
 ·exact List.pairwise_iff_getElem.1 h j i hj hi h1 u hu v hv
 ·exact(List.pairwise_iff_getElem.1 h i j hi hj h1 v hv u hu).symm
theorem Lk.below {lo b i N:Nat} {vv:Value} {xs:List WI} {W W':World} (h:Lk lo b vv xs i N W) (hb:Below W.heap.size W W'):Lk lo b vv xs i N W':=
 ⟨aD h.1 hb,fun j hj bC=>⟨fun h'=>((h.2 j hj bC).1 h').below hb,fun h'=>((h.2 j hj bC).2 h').below hb⟩⟩
theorem Lk.off {lo b i N:Nat} {vv v:Value} {xs:List WI} {W W':World} (h:Lk lo b vv xs i N W) (hg:W.grownBy W' v.ownBlock) (hr:vv.ownBlock=none∨vv.ownBlock≠v.ownBlock)
  (hv: ∀j (hj:j<xs.length),j≠i→ ∀u∈xs[j].ls,cJ u v):Lk lo b vv xs i N W':=
 ⟨h.1.kept hg hr,fun j hj bC=>⟨fun h'=>((h.2 j hj bC).1 h').off hg (hv j hj bC),fun h'=>((h.2 j hj bC).2 h').off hg (hv j hj bC)⟩⟩
theorem Dz.Ir {xs:List WI} (h:Dz lo b vv xs N W) (i:Nat):Lk lo b vv xs i N W:=⟨h.1,fun j hj _=>h.2 j hj⟩
theorem Lk.step {i:Nat} {xs:List WI} (h:Lk lo b vv xs i i W) (hi:i<xs.length) (hm:Mk lo W i xs[i]):Dz lo b vv xs (i+1) W:=
 ⟨h.1,fun j hj=>by
  by_cases e:j=i
  ·subst e;exact⟨fun _=>hm,fun h'=>by omega⟩
  ·exact⟨fun h'=>(h.2 j hj e).1 (by omega),fun h'=>(h.2 j hj e).2 (by omega)⟩⟩
theorem Lk.all {i:Nat} {xs:List WI} (h:Lk lo b vv xs i xs.length W) (hi:i<xs.length) (hm:Mk lo W i xs[i]):Dz lo b vv xs xs.length W:=
 ⟨h.1,fun j hj=>by
  by_cases e:j=i
  ·subst e;exact⟨fun _=>hm,fun h'=>by omega⟩
  ·exact h.2 j hj e⟩
theorem JV (hw:W.ownsRow lo e sz u n ys) (hg:W.grownBy W' u.ownBlock) (he:e=9∨e=65):(∀t,t≠9→t≠65→gU t W W')∧KeepsFrom 0 W W':=
 ⟨fun t h1 h2=>Rx hw hg (he.elim (fun e=>e▸Ne.symm h1) fun e=>e▸Ne.symm h2),D9 hw hg⟩
structure R4 (lo:Nat) (W:World) (x:WI) (M O I L:List Value):Prop where
 m:W.ownsRow lo 65 3 x.m x.r.ms.length M
 o:W.ownsRow lo 9 1 x.o x.r.mls.length O
 i:W.ownsRow lo 9 1 x.i x.r.inc.length I
 l:W.ownsRow lo 9 1 x.l x.r.labels.length L
theorem R4.below {x:WI} (h:R4 lo W x M O I L) (hb:Below W.heap.size W W'):R4 lo W' x M O I L:=⟨aD h.m hb,aD h.o hb,aD h.i hb,aD h.l hb⟩
structure St (w:World) (lo hi b:Nat) (vv:Value) (xs:List WI) (i N:Nat) (x:WI) (W:World) (M O I L:List Value):Prop where
 Ir:Lk lo b vv xs i N W
 r:R4 lo W x M O I L
 sp:fQ lo hi w W
theorem St.below {w W W':World} {lo hi b i N:Nat} {vv:Value} {xs:List WI} {x:WI} {M O I L:List Value} (h:St w lo hi b vv xs i N x W M O I L) (hl:lo≤w.heap.size) (hb:Below W.heap.size W W'):St w lo hi b vv xs i N x W' M O I L:=
 ⟨h.Ir.below hb,h.r.below hb,h.sp.below hl hb⟩
theorem zG (h1:w.ownsRow b1 e1 s1 v1 n1 x1) (h2:w.ownsRow b2 e2 s2 v2 n2 x2) (bC:e1≠e2):cJ v1 v2:=fun g h3 h4=>by
 rcases cI h1 h2 bC with h|h
 ·rw[h]at h3;cases h3
 ·exact h (h3.trans h4.symm)
theorem St.put {i:Nat} {xs:List WI} {x:WI} (h:St w lo hi b vv xs i N x W M O I L) (hF:Fx w lo hi xs) (rb:i<xs.length) (hx:x=xs[i]) (hu:u∈x.ls)
  {e:TypeId} {sz n:Nat} {ys:List Value} (hw:W.ownsRow lo e sz u n ys) (he:e=9∨e=65) (hg:W.grownBy W' u.ownBlock):Lk lo b vv xs i N W'∧fQ lo hi w W':=by
 subst hx;refine⟨h.Ir.off hg (cI h.Ir.1 hw (by rcases he with rfl|rfl<;>decide)) fun j hj bC v hv=>Uo hF.Dm rb hj bC v hv u hu,h.sp.grow hF.lo hg (fun q hq=>⟨(hw.lt q hq).1,.inl ?_⟩) (JV hw hg he)⟩;exact hF.under _ (gj rb) u hu q hq
theorem St.m {w W W':World} {lo hi b i N:Nat} {vv:Value} {xs:List WI} {x:WI} {M O I L M':List Value} (h:St w lo hi b vv xs i N x W M O I L) (hF:Fx w lo hi xs) (rb:i<xs.length) (hx:x=xs[i])
  (hw:W'.ownsRow lo 65 3 x.m x.r.ms.length M') (hg:W.grownBy W' x.m.ownBlock):St w lo hi b vv xs i N x W' M' O I L:=by
 obtain⟨h1,h2⟩:=h.put hF rb hx (by simp[WI.ls]) h.r.m (by decide) hg;exact⟨h1,⟨hw,h.r.o.kept hg (cI h.r.o h.r.m (by decide)),h.r.i.kept hg (cI h.r.i h.r.m (by decide)),h.r.l.kept hg (cI h.r.l h.r.m (by decide))⟩,h2⟩
theorem St.l {w W W':World} {lo hi b i N:Nat} {vv:Value} {xs:List WI} {x:WI} {M O I L L':List Value} (h:St w lo hi b vv xs i N x W M O I L) (hF:Fx w lo hi xs) (rb:i<xs.length) (hx:x=xs[i])
  (hw:W'.ownsRow lo 9 1 x.l x.r.labels.length L') (hg:W.grownBy W' x.l.ownBlock):St w lo hi b vv xs i N x W' M O I L':=by
 obtain⟨h1,h2⟩:=h.put hF rb hx (by simp[WI.ls]) h.r.l (by decide) hg;have ha:=hF.oil x (by rw[hx];exact gj rb);exact⟨h1,⟨h.r.m.kept hg (cI h.r.m h.r.l (by decide)),h.r.o.kept hg ha.2.1.row,h.r.i.kept hg ha.2.2.row,hw⟩,h2⟩
theorem St.o {w W W':World} {lo hi b i N:Nat} {vv:Value} {xs:List WI} {x:WI} {M O I L O':List Value} (h:St w lo hi b vv xs i N x W M O I L) (hF:Fx w lo hi xs) (rb:i<xs.length) (hx:x=xs[i])
  (hw:W'.ownsRow lo 9 1 x.o x.r.mls.length O') (hg:W.grownBy W' x.o.ownBlock):St w lo hi b vv xs i N x W' M O' I L:=by
 obtain⟨h1,h2⟩:=h.put hF rb hx (by simp[WI.ls]) h.r.o (by decide) hg;have ha:=hF.oil x (by rw[hx];exact gj rb);exact⟨h1,⟨h.r.m.kept hg (cI h.r.m h.r.o (by decide)),hw,h.r.i.kept hg ha.1.symm.row,h.r.l.kept hg ha.2.1.symm.row⟩,h2⟩
theorem St.i {w W W':World} {lo hi b i N:Nat} {vv:Value} {xs:List WI} {x:WI} {M O I L I':List Value} (h:St w lo hi b vv xs i N x W M O I L) (hF:Fx w lo hi xs) (rb:i<xs.length) (hx:x=xs[i])
  (hw:W'.ownsRow lo 9 1 x.i x.r.inc.length I') (hg:W.grownBy W' x.i.ownBlock):St w lo hi b vv xs i N x W' M O I' L:=by
 obtain⟨h1,h2⟩:=h.put hF rb hx (by simp[WI.ls]) h.r.i (by decide) hg;have ha:=hF.oil x (by rw[hx];exact gj rb);exact⟨h1,⟨h.r.m.kept hg (cI h.r.m h.r.i (by decide)),h.r.o.kept hg ha.1.row,hw,h.r.l.kept hg ha.2.2.symm.row⟩,h2⟩
theorem FC {xs:List WI} (h:W.ownsRow b 46 17 (.slice (some ⟨g,0,none⟩) xs.length c) xs.length (xs.flatMap WI.cs)) (j:Nat) (hj:j<xs.length):
  W.cell? ⟨g,j*17+4,none⟩=some xs[j].m∧W.cell? ⟨g,j*17+12,none⟩=some xs[j].o∧W.cell? ⟨g,j*17+14,none⟩=some xs[j].i∧W.cell? ⟨g,j*17+16,none⟩=some xs[j].l:=by
 obtain⟨ao,c',hv,hc⟩:=mL WI.cs 17 (fun _=>rfl) xs h;injection hv with h1 h2 h3
 subst h1;obtain⟨g',o,he,_,_,hk⟩:=hc j hj;injection he with he
 injection he with e1 e2
 subst e1 e2;have z:=fun k hk'=>hk k hk'
 simp only[mw]at z;exact⟨z 4 (by omega),z 12 (by omega),z 14 (by omega),z 16 (by omega)⟩
structure Gz (lo N:Nat) (W:World) (v t:Value) (e:TypeId) (sz n k:Nat) (A:List Value):Prop where
 own: ∃X,W.ownsRow lo e sz t (n+k) (A++X)
 base:W.ownsRow lo e sz v n A
 blk: ∀q,t.ownBlock=some q→v.ownBlock=some q∨N≤q
theorem Gz.start (h:W.ownsRow lo e sz v n A):Gz lo N W v v e sz n 0 A:=⟨⟨[],by rw[mu];exact h⟩,h,fun q hq=>.inl hq⟩
theorem Gz.below (h:Gz lo N W v t e sz n k A) (hb:Below W.heap.size W W'):Gz lo N W' v t e sz n k A:=by
 obtain⟨⟨X,h1⟩,h2,h3⟩:=h;exact⟨⟨X,aD h1 hb⟩,aD h2 hb,h3⟩
theorem Gz.off (h:Gz lo N W v t e sz n k A) (hg:W.grownBy W' s.ownBlock) (h1:cJ t s) (h2:cJ v s):Gz lo N W' v t e sz n k A:=by
 obtain⟨⟨X,h3⟩,h4,h5⟩:=h;exact⟨⟨X,h3.kept hg h1.row⟩,h4.kept hg h2.row,h5⟩
theorem RJ {m:Nat} (ha:w.ownsRow b e size av n A) (hg:w.ownsRow b e size gv m (A++X))
  (hr:w'.ownsRow b e size gv' (m+k) (A++X++us)) (iu:w.grownBy w' gv.ownBlock) (halt:fl gv gv'∨(gv'.ownBlock=some g0∧w.grownBy w' none)):w'.ownsRow b e size av n A:=by
 rcases halt with⟨g,n1,m1,cp,rfl,rfl⟩|⟨_,h⟩
 ·by_cases hs:av.ownBlock=some g
  ·rcases ha.2 with hn|⟨g0,cap,cur,rfl,c1,c2,c3,c4,c5,c6⟩
   ·exact⟨ha.1,.inl hn⟩
   ·obtain rfl:g0=g:=by simpa [Value.ownBlock]using hs
    rcases hr.2 with⟨hv,_⟩|⟨g',atn,alf,hv,d1,d2,d3,d4,d5,d6⟩
    ·cases hv
    ·rcases hg.2 with⟨Ht,_⟩|⟨g2,ato,atp,Ht,f1,f2,f3,f4,f5,f6⟩
     ·cases Ht
     ·simp only[Value.slice.injEq,vt,Addr.mk.injEq,jw,rz]at hv Ht;obtain⟨rfl,rfl,rfl⟩:=hv;obtain⟨rfl,rfl,rfl⟩:=Ht;rw[c2]at f2;simp only[vt,Obj.cells.injEq,jw,rz]at f2;subst f2;refine⟨ha.1,.inr ⟨g0,cap,alf,rfl,c1,d2,c3,c4,by rw[d5,←f5,c5],?_⟩⟩;have hA:A.length=n*size:=ha.1;have h1:=bT (List.take (n*size)) d6;have h2:=hr.1;rw[fT,fT]at h2;rw[List.take_take,mr (by omega),lj,←hA,List.take_left]at h1;rw[←hA];exact h1
  ·exact xR ha iu fun g1 pD hgv=>hs (by rw[pD];exact hgv)
 ·exact xR ha h fun g _ hgv=>by cases hgv
theorem Gz.push (h:Gz lo N W v t e sz n k A) (hx:W.ownsRow lo e sz t (n+k) (A++X)) (hN:N≤W.heap.size)
  (r1:W'.ownsRow lo e sz t' (n+k+1) (A++X++us)) (r2:W.grownBy W' t.ownBlock) (r3:fl t t'∨(t'.ownBlock=some (W.heap.size+1)∧W.grownBy W' none)):Gz lo N W' v t' e sz n (k+1) A:=by
 refine⟨⟨X++us,by rw[←lj];exact r1⟩,RJ h.base hx r1 r2 r3,fun q hq=>?_⟩;rcases r3 with⟨g,n',m',cap,rfl,rfl⟩|⟨r3,_⟩
 ·exact h.blk q hq
 ·rw[r3]at hq;injection hq with hq;right;omega
theorem kh (h:cJ t u) (hu:W.ownsRow lo e sz u n ys) (r3:fl t t'∨(t'.ownBlock=some (W.heap.size+1)∧W.grownBy W' none)):cJ t' u:=by
 intro q h1 h2;rcases r3 with⟨g,n',m',cap,rfl,rfl⟩|⟨r3,_⟩
 ·exact h q h1 h2
 ·rw[r3]at h1;injection h1 with h1
  have:=(hu.lt q h2).2;omega
structure zQ (w:World) (lo hi b:Nat) (vv:Value) (xs:List WI) (i:Nat) (x:WI) (W:World) (t7 t8 t9 t10:Value) (k7 k8 k9 H6:Nat) (M O I L:List Value):Prop where
 Ir:Lk lo b vv xs i xs.length W
 sp:fQ lo hi w W
 g7:Gz lo w.heap.size W x.m t7 65 3 x.r.ms.length k7 M
 g8:Gz lo w.heap.size W x.l t8 9 1 x.r.labels.length k8 L
 g9:Gz lo w.heap.size W x.o t9 9 1 x.r.mls.length k9 O
 g10:Gz lo w.heap.size W x.i t10 9 1 x.r.inc.length H6 I
 a89:cJ t8 t9
 a80:cJ t8 t10
 a90:cJ t9 t10
theorem zQ.below {w W W':World} {lo hi b i:Nat} {vv t7 t8 t9 t10:Value} {xs:List WI} {x:WI} {k7 k8 k9 H6:Nat} {M O I L:List Value} (h:zQ w lo hi b vv xs i x W t7 t8 t9 t10 k7 k8 k9 H6 M O I L) (hl:lo≤w.heap.size) (hb:Below W.heap.size W W'):zQ w lo hi b vv xs i x W' t7 t8 t9 t10 k7 k8 k9 H6 M O I L:=
 ⟨h.Ir.below hb,h.sp.below hl hb,h.g7.below hb,h.g8.below hb,h.g9.below hb,h.g10.below hb,h.a89,h.a80,h.a90⟩
theorem St.gr {i:Nat} {xs:List WI} {x:WI} (h:St w lo hi b vv xs i xs.length x W M O I L) (hF:Fx w lo hi xs) (rb:i<xs.length) (hx:x=xs[i]):zQ w lo hi b vv xs i x W x.m x.l x.o x.i 0 0 0 0 M O I L:=by
 have ha:=hF.oil x (by rw[hx];exact gj rb);exact⟨h.Ir,h.sp,.start h.r.m,.start h.r.l,.start h.r.o,.start h.r.i,ha.2.1.symm,ha.2.2.symm,ha.1⟩
theorem mS (h:Gz lo N W v t e sz n k A) (ha:cJ u v) (hu: ∀q,u.ownBlock=some q→q<N):cJ u t:=by
 intro q h1 h2;rcases h.blk q h2 with h3|h3
 ·exact ha q h1 h3
 ·have:=hu q h1;omega
theorem o0 (h:Gz lo N W v t e sz n k A) (h2:Gz lo N W v2 t2 e2 sz2 n2 k2 A2) (he:e≠e2):cJ t t2∧cJ v t2:=by
 obtain⟨X,hX⟩:=h.own;obtain⟨Y,hY⟩:=h2.own;exact⟨zG hX hY he,zG h.base hY he⟩
theorem zQ.put {i:Nat} {xs:List WI} {x:WI} (ho:Lk lo b vv xs i xs.length W) (hs:fQ lo hi w W) (hF:Fx w lo hi xs) (rb:i<xs.length) (hx:x=xs[i]) (hu:u∈x.ls)
  {e:TypeId} {sz n k:Nat} {A:List Value} (hz:Gz lo w.heap.size W u t e sz n k A) (he:e=9∨e=65) (hg:W.grownBy W' t.ownBlock):Lk lo b vv xs i xs.length W'∧fQ lo hi w W':=by
 obtain⟨X,hX⟩:=hz.own;subst hx;refine⟨ho.off hg (cI ho.1 hX (by rcases he with rfl|rfl<;>decide)) fun j hj bC v hv=>mS hz (Uo hF.Dm rb hj bC v hv u hu) fun q hq=>?_,hs.grow hF.lo hg (fun q hq=>⟨(hX.lt q hq).1,?_⟩) (JV hX hg he)⟩
 ·have:=hF.under _ (gj hj) v hv q hq;exact gO this hF.hi
 ·rcases hz.blk q hq with h|h
  ·exact .inl (hF.under _ (gj rb) u hu q h)
  ·exact .inr h
theorem Fx.small {xs:List WI} (hF:Fx w lo hi xs) {x:WI} (hx:x∈xs) {u:Value} (hu:u∈x.ls): ∀q,u.ownBlock=some q→q<w.heap.size:=fun q hq=>gO (hF.under x hx u hu q hq) hF.hi
theorem zQ.ah1 {i:Nat} {xs:List WI} {x:WI} (h:zQ w lo hi b vv xs i x W t7 t8 t9 t10 k7 k8 k9 H6 M O I L) (hF:Fx w lo hi xs) (rb:i<xs.length) (hx:x=xs[i])
  (ht:W.ownsRow lo 65 3 t7 (x.r.ms.length+k7) (M++X)) (r1:W'.ownsRow lo 65 3 t' (x.r.ms.length+k7+1) (M++X++us)) (r2:W.grownBy W' t7.ownBlock) (r3:fl t7 t'∨(t'.ownBlock=some (W.heap.size+1)∧W.grownBy W' none)):
  zQ w lo hi b vv xs i x W' t' t8 t9 t10 (k7+1) k8 k9 H6 M O I L:=by
 obtain⟨h1,h2⟩:=zQ.put h.Ir h.sp hF rb hx (by simp[WI.ls]) h.g7 (by decide) r2;have t8':=o0 h.g8 h.g7 (by decide);have t9':=o0 h.g9 h.g7 (by decide);have abQ:=o0 h.g10 h.g7 (by decide);exact⟨h1,h2,h.g7.push ht h.sp.1.size r1 r2 r3,h.g8.off r2 t8'.1 t8'.2,h.g9.off r2 t9'.1 t9'.2,h.g10.off r2 abQ.1 abQ.2,h.a89,h.a80,h.a90⟩
theorem zQ.ah2 {i:Nat} {xs:List WI} {x:WI} (h:zQ w lo hi b vv xs i x W t7 t8 t9 t10 k7 k8 k9 H6 M O I L) (hF:Fx w lo hi xs) (rb:i<xs.length) (hx:x=xs[i])
  (ht:W.ownsRow lo 9 1 t8 (x.r.labels.length+k8) (L++X)) (r1:W'.ownsRow lo 9 1 t' (x.r.labels.length+k8+1) (L++X++us)) (r2:W.grownBy W' t8.ownBlock) (r3:fl t8 t'∨(t'.ownBlock=some (W.heap.size+1)∧W.grownBy W' none)):
  zQ w lo hi b vv xs i x W' t7 t' t9 t10 k7 (k8+1) k9 H6 M O I L:=by
 obtain⟨h1,h2⟩:=zQ.put h.Ir h.sp hF rb hx (by simp[WI.ls]) h.g8 (by decide) r2;have XU:=o0 h.g7 h.g8 (by decide);have hm:x∈xs:=by rw[hx];exact gj rb
 have ha:=hF.oil x hm;obtain⟨Y9,y9⟩:=h.g9.own;obtain⟨Y10,y10⟩:=h.g10.own;exact⟨h1,h2,h.g7.off r2 XU.1 XU.2,h.g8.push ht h.sp.1.size r1 r2 r3,h.g9.off r2 h.a89.symm (mS h.g8 ha.2.1 (hF.small hm (by simp[WI.ls]))),h.g10.off r2 h.a80.symm (mS h.g8 ha.2.2 (hF.small hm (by simp[WI.ls]))),kh h.a89 y9 r3,kh h.a80 y10 r3,h.a90⟩
theorem zQ.ah3 {i:Nat} {xs:List WI} {x:WI} (h:zQ w lo hi b vv xs i x W t7 t8 t9 t10 k7 k8 k9 H6 M O I L) (hF:Fx w lo hi xs) (rb:i<xs.length) (hx:x=xs[i])
  (ht:W.ownsRow lo 9 1 t9 (x.r.mls.length+k9) (O++X)) (r1:W'.ownsRow lo 9 1 t' (x.r.mls.length+k9+1) (O++X++us)) (r2:W.grownBy W' t9.ownBlock) (r3:fl t9 t'∨(t'.ownBlock=some (W.heap.size+1)∧W.grownBy W' none)):
  zQ w lo hi b vv xs i x W' t7 t8 t' t10 k7 k8 (k9+1) H6 M O I L:=by
 obtain⟨h1,h2⟩:=zQ.put h.Ir h.sp hF rb hx (by simp[WI.ls]) h.g9 (by decide) r2;have XU:=o0 h.g7 h.g9 (by decide);have hm:x∈xs:=by rw[hx];exact gj rb
 have ha:=hF.oil x hm;obtain⟨Y8,y8⟩:=h.g8.own;obtain⟨Y10,y10⟩:=h.g10.own;exact⟨h1,h2,h.g7.off r2 XU.1 XU.2,h.g8.off r2 h.a89 (mS h.g9 ha.2.1.symm (hF.small hm (by simp[WI.ls]))),h.g9.push ht h.sp.1.size r1 r2 r3,h.g10.off r2 h.a90.symm (mS h.g9 ha.1.symm (hF.small hm (by simp[WI.ls]))),(kh h.a89.symm y8 r3).symm,h.a80,kh h.a90 y10 r3⟩
theorem zQ.acK {i:Nat} {xs:List WI} {x:WI} (h:zQ w lo hi b vv xs i x W t7 t8 t9 t10 k7 k8 k9 H6 M O I L) (hF:Fx w lo hi xs) (rb:i<xs.length) (hx:x=xs[i])
  (ht:W.ownsRow lo 9 1 t10 (x.r.inc.length+H6) (I++X)) (r1:W'.ownsRow lo 9 1 t' (x.r.inc.length+H6+1) (I++X++us)) (r2:W.grownBy W' t10.ownBlock) (r3:fl t10 t'∨(t'.ownBlock=some (W.heap.size+1)∧W.grownBy W' none)):
  zQ w lo hi b vv xs i x W' t7 t8 t9 t' k7 k8 k9 (H6+1) M O I L:=by
 obtain⟨h1,h2⟩:=zQ.put h.Ir h.sp hF rb hx (by simp[WI.ls]) h.g10 (by decide) r2;have XU:=o0 h.g7 h.g10 (by decide);have hm:x∈xs:=by rw[hx];exact gj rb
 have ha:=hF.oil x hm;obtain⟨Y8,y8⟩:=h.g8.own;obtain⟨Y9,y9⟩:=h.g9.own;exact⟨h1,h2,h.g7.off r2 XU.1 XU.2,h.g8.off r2 h.a80 (mS h.g10 ha.2.2.symm (hF.small hm (by simp[WI.ls]))),h.g9.off r2 h.a90 (mS h.g10 ha.1 (hF.small hm (by simp[WI.ls]))),h.g10.push ht h.sp.1.size r1 r2 r3,h.a89,(kh h.a80.symm y8 r3).symm,(kh h.a90.symm y9 r3).symm⟩
theorem sA (h:W.ownsRow b e sz v n xs): ∃ao c,v= .slice ao n c∧(0<n→ ∃g,ao=some ⟨g,0,none⟩):=by
 rcases xT h with⟨rfl,rfl⟩|⟨g,c,rfl,_⟩
 ·exact⟨_,_,rfl,fun h=>absurd h (Nat.lt_irrefl _)⟩
 ·exact⟨_,_,rfl,fun _=>⟨g,rfl⟩⟩
def PX (z k:Nat) (ms:List PM):List Value:=(List.replicate k z).flatMap Oh++(ms.drop k).flatMap og
theorem V7 (z:Nat) (ms:List PM):PX z 0 ms=ms.flatMap og:=by simp[PX]
theorem Zs (z:Nat) (ms:List PM):PX z ms.length ms=(List.replicate ms.length z).flatMap Oh:=by simp[PX]
theorem Pp (z k:Nat):((List.replicate k z).flatMap Oh).length=k*3:=by
 induction k with
 |zero=>rfl
 |succ k ih=>rw[List.replicate_succ,xk,fT,ih];simp[Oh];omega
theorem V8 (h : W.ownsRow lo 65 3 (.slice (some ⟨g, 0, none⟩) n c) n (PX z k ms)) (hk : k < ms.length) :
    (((W.setCell ⟨g, k * 3, none⟩ (.string ⟨#[109, 97, 114, 107, 101, 100]⟩)).setCell ⟨g, k * 3 + 1, none⟩ (.int .i64 (z : Int))).setCell ⟨g, k * 3 + 2, none⟩ (.string ⟨#[]⟩)).ownsRow lo 65 3 (.slice (some ⟨g, 0, none⟩) n c) n (PX z (k + 1) ms) ∧
      W.grownBy (((W.setCell ⟨g,k*3,none⟩ (.string ⟨#[109,97,114,107,101,100]⟩)).setCell ⟨g,k*3+1,none⟩ (.int .i64 (z:Int))).setCell ⟨g,k*3+2,none⟩ (.string ⟨#[]⟩)) (some g):=by
  have e : PX z k ms = (List.replicate k z).flatMap Oh ++ [.string ms[k].name, .int .i64 ms[k].op, .string ms[k].value] ++ (ms.drop (k + 1)).flatMap og := by
    unfold PX
    rw[nV hk,xk,lj]
    rfl
  have e2 : PX z (k + 1) ms = (List.replicate k z).flatMap Oh ++ [.string ⟨#[109, 97, 114, 107, 101, 100]⟩, .int .i64 (z : Int), .string ⟨#[]⟩] ++ (ms.drop (k + 1)).flatMap og := by
    unfold PX
    rw[List.replicate_succ',yv]
    rfl
  rw[e]at h
  rw[e2]
  exact NH h (Pp z k)
theorem Pq (h:k≤ms.length):(PX z k ms).length=ms.length*3:=by
 unfold PX;have: ∀l:List PM,(l.flatMap og).length=l.length*3:=fun l=>by
  induction l with
  |nil=>rfl
  |cons a l ih=>rw[xk,fT,ih,dI];simp[og];omega
 rw[fT,Pp,this,mY];omega
theorem aad {xs:List WI} (h:j<xs.length) {x:WI} (e:x=xs[j]):x∈xs:=by rw[e];exact gj h
theorem Dz.st {i:Nat} {xs:List WI} {x:WI} (h:Dz lo b vv xs i W) (hs:fQ lo hi w W) (rb:i<xs.length) (hx:x=xs[i]):
  St w lo hi b vv xs i i x W (x.r.ms.flatMap og) (x.r.mls.flatMap lK) (x.r.inc.flatMap lK) (x.r.labels.flatMap lK):=by
 subst hx;have:=(h.2 i rb).2 (aP _);exact⟨h.Ir i,⟨this.m,this.o,this.i,this.l⟩,hs⟩
def Ll (n m:Nat):List Value:=List.replicate n (.string (iF m))
theorem St.marks {i:Nat} {xs:List WI} {x:WI} (h:St w lo hi b vv xs i N x W ((List.replicate x.r.ms.length (i*4+100)).flatMap Oh) (Ll x.r.mls.length (i*4+2)) (Ll x.r.inc.length (i*4+3)) (Ll x.r.labels.length (i*4+1))):Mk lo W i x:=⟨h.r.m,h.r.o,h.r.i,h.r.l⟩
theorem Dz.st2 {i:Nat} {xs:List WI} {x:WI} (h:Dz lo b vv xs xs.length W) (hs:fQ lo hi w W) (rb:i<xs.length) (hx:x=xs[i]):
  St w lo hi b vv xs i xs.length x W ((List.replicate x.r.ms.length (i*4+100)).flatMap Oh) (Ll x.r.mls.length (i*4+2)) (Ll x.r.inc.length (i*4+3)) (Ll x.r.labels.length (i*4+1)):=by
 subst hx;have:=(h.2 i rb).1 rb;exact⟨h.Ir i,⟨this.m,this.o,this.i,this.l⟩,hs⟩
theorem zQ.spj {i:Nat} {xs:List WI} {x:WI} (h:zQ w lo hi b vv xs i x W t7 t8 t9 t10 k7 k8 k9 H6 ((List.replicate x.r.ms.length (i*4+100)).flatMap Oh) (Ll x.r.mls.length (i*4+2)) (Ll x.r.inc.length (i*4+3)) (Ll x.r.labels.length (i*4+1)))
  (rb:i<xs.length) (hx:x=xs[i]):Dz lo b vv xs xs.length W:=by
 subst hx;exact h.Ir.all rb ⟨h.g7.base,h.g9.base,h.g10.base,h.g8.base⟩
theorem V9 {xs:List WI} (h0:Dz lo b vv xs 0 w) (hF:Fx w lo hi xs) (hn:xs.length≤4294967296):
  Calls prog 13 #[vv] w fun e w'=>e= .returned (.bool true)∧fQ lo hi w w':=by
 obtain⟨ao,c,rfl,Sj⟩:=sA h0.1;have HAO:=aa Sj;have H0:=aa h0;have HF:=aa hF;clear h0 hF Sj;go_enter func13,ntmps13;go_wp2_with fail;go_loopw [3] (fun t3 W=> ∃j:Nat,t3= .int .i64 (j:Int)∧Hid (j≤xs.length)∧Hid (Dz lo b (.slice ao xs.length c) xs j W∧fQ lo hi w W)) (fun t3 _=>xs.length-(intOf t3).toNat)
 case atStart=>exact⟨0,rfl,aa (aT _),aa ⟨H0.out,fQ.refl _ _ _⟩⟩
 case round=>
  obtain⟨j,rfl,hj,hs⟩:=hrel;by_cases au:j<xs.length
  ·have p1:((j:Int)<(xs.length:Int))=True:=az (by omega);obtain⟨x,hx⟩: ∃x,x=xs[j]:=⟨_,rfl⟩;have cA:=Dz.st hs.out.1 hs.out.2 au hx;have hlen:=HF.out.len x (aad au hx);obtain⟨g,rfl⟩:=HAO.out (by omega);have HX:=aa hx;obtain⟨am,cm,η,ham⟩:=sA cA.r.m;have HVM:=aa η;have HAM:=aa ham;have S9:x.r.ms.length≤1099511627776:=hlen.1;have tg:=aa hlen;have HRC:Hid (∀W M O I L,St w lo hi b (.slice (some ⟨g,0,none⟩) xs.length c) xs j j x W M O I L→W.cell? ⟨g,j*17+4,none⟩=some (.slice am x.r.ms.length cm)∧W.cell? ⟨g,j*17+12,none⟩=some x.o∧W.cell? ⟨g,j*17+14,none⟩=some x.i∧W.cell? ⟨g,j*17+16,none⟩=some x.l):=aa fun W M O I L h=>by
    have:=FC h.Ir.1 j au;rw[←HX.out,HVM.out]at this;exact this
   have sr:=aa cA;obtain⟨c4,c12,Li,Iq⟩:=HRC.out _ _ _ _ _ cA;clear cA hs hx η ham hlen;go_wp2_with fail;go_loopw [5] (fun t5 W=> ∃k:Nat,t5= .int .i64 (k:Int)∧Hid (k≤x.r.ms.length)∧Hid (St w lo hi b (.slice (some ⟨g,0,none⟩) xs.length c) xs j j x W (PX (j*4+100) k x.r.ms) (x.r.mls.flatMap lK) (x.r.inc.flatMap lK) (x.r.labels.flatMap lK))) (fun t5 _=>x.r.ms.length-(intOf t5).toNat)
   case atStart=>exact⟨0,rfl,aa (aT _),by rw[V7];exact sr⟩
   case round=>
    obtain⟨k,rfl,hk,hsk⟩:=hrel;obtain⟨d4,d12,d14,d16⟩:=HRC.out _ _ _ _ _ hsk.out;by_cases nU:k<x.r.ms.length
    ·have p2:((k:Int)<(x.r.ms.length:Int))=True:=az (by omega);obtain⟨gm,rfl⟩:=HAM.out (by omega);have hom:=hsk.out.r.m;rw[HVM.out]at hom;have fm: ∀i,wr.frozen? ⟨gm,i,none⟩=false:=fun i=>hom.frozenAt i
     have hcm: ∀i,i<x.r.ms.length*3→ ∃v,wr.cell? ⟨gm,i,none⟩=some v:=fun i hi=>by
      rw[hom.cellAt i (by have:=Pq (z:=j*4+100) hk.out;omega)];exact⟨_,lB (by have:=Pq (z:=j*4+100) hk.out;omega)⟩
     obtain⟨v0,k0⟩:=hcm (k*3) (by omega);obtain⟨v1,k1⟩:=hcm (k*3+1) (by omega);obtain⟨v2,k2⟩:=hcm (k*3+2) (by omega);obtain⟨r1,r2⟩:=V8 hom nU;have hN:=hsk.out.m HF.out au HX.out (by rw[HVM.out];exact r1) (by rw[HVM.out];exact r2);rw[show ((j*4+100:Nat):Int)=(j:Int)*4+100 by omega]at hN;have HN:=aa hN;clear hom hcm r1 r2 hN hsk;go_wp2_with fail;go_roundw
     case rel=>exact⟨k+1,by go_num,aa nU,HN⟩
     case measure=>simp[intOf];omega
    ·have p2:((k:Int)<(x.r.ms.length:Int))=False:=bL (by omega);have tX:k=x.r.ms.length:=by have:=hk.out;omega
     subst tX;have oz:=hsk.out;rw[Zs]at oz;have HWR:Hid (∀(m:Nat) (M:Int),M=m→m<1099511627776→ ∀W v n ys,W.ownsRow lo 9 1 v n ys→ys.length=n→n≤1099511627776→Calls prog 39 #[v,.int .i64 M] W fun e w'=>(∃r,e= .returned r)∧w'.ownsRow lo 9 1 v n (Ll n m)∧W.grownBy w' v.ownBlock):=aa fun m M hM hm W v n ys h1 h2 h3=>by
      subst hM;exact U9 h1 h2 h3 hm
     have yt:=aa oz;clear oz hsk;go_wp2_with fail;refine(HWR.out (j*4+1) _ (by omega) (by omega) _ _ _ _ yt.out.r.l (by simpa using yt.out.r.l.1) tg.out.2.2.2).mono ?_;rintro e W2 ⟨⟨r2,rfl⟩,AM,tm⟩;have nt:=aa (yt.out.l HF.out au HX.out AM tm);obtain⟨e4,e12,e14,SX⟩:=HRC.out _ _ _ _ _ nt.out;clear AM tm;go_wp2_with fail;refine(HWR.out (j*4+2) _ (by omega) (by omega) _ _ _ _ nt.out.r.o (by simpa using nt.out.r.o.1) tg.out.2.1).mono ?_;rintro e W3 ⟨⟨r3,rfl⟩,sY,hg3⟩;have Dw:=aa (nt.out.o HF.out au HX.out sY hg3);obtain⟨f4,f12,f14,f16⟩:=HRC.out _ _ _ _ _ Dw.out;clear sY hg3;go_wp2_with fail;refine(HWR.out (j*4+3) _ (by omega) (by omega) _ _ _ _ Dw.out.r.i (by simpa using Dw.out.r.i.1) tg.out.2.2.1).mono ?_;rintro e W4 ⟨⟨r4,rfl⟩,Du,XR⟩;have Sw:=Dw.out.i HF.out au HX.out Du XR;have Hu:=aa Sw;have HN:Hid (Dz lo b (.slice (some ⟨g,0,none⟩) xs.length c) xs (j+1) W4∧fQ lo hi w W4):=aa ⟨Sw.Ir.step au (by rw[←HX.out];exact Sw.marks),Sw.sp⟩;clear Du XR Sw;go_wp2_with fail;go_roundw
     case rel=>exact⟨j+1,by go_num,aa au,HN⟩
     case measure=>simp[intOf];omega
  ·have p1:((j:Int)<(xs.length:Int))=False:=bL (by omega);have hje:j=xs.length:=by have:=hj.out;omega
   subst hje;have HMK:Hid (∀W,Dz lo b (.slice ao xs.length c) xs xs.length W→Calls prog 40 #[.slice ao xs.length c] W (aC W true)):=aa fun W h=>RI h.1 (fun j hj=>(h.2 j hj).1 hj) hn HF.out.len
   go_wp2_with fail;refine(HMK.out _ hs.out.1).mono ?_;rintro e W1 ⟨rfl,aU⟩;have yt:Hid (Dz lo b (.slice ao xs.length c) xs xs.length W1∧fQ lo hi w W1):=aa ⟨hs.out.1.below aU,hs.out.2.below HF.out.lo aU⟩;clear aU hs;go_wp2_with fail;go_loopw [6] (fun t6 W=> ∃j:Nat,t6= .int .i64 (j:Int)∧Hid (j≤xs.length)∧Hid (Dz lo b (.slice ao xs.length c) xs xs.length W∧fQ lo hi w W)) (fun t6 _=>xs.length-(intOf t6).toNat)
   case atStart=>exact⟨0,rfl,aa (aT _),yt⟩
   case round=>
    obtain⟨j,rfl,hj,hs⟩:=hrel;by_cases au:j<xs.length
    ·have p1:((j:Int)<(xs.length:Int))=True:=az (by omega);obtain⟨x,hx⟩: ∃x,x=xs[j]:=⟨_,rfl⟩;have cA:=Dz.st2 hs.out.1 hs.out.2 au hx;have hlen:=HF.out.len x (aad au hx);obtain⟨g,rfl⟩:=HAO.out (by omega);have HX:=aa hx;have tg:=aa hlen;obtain⟨c4,c12,Li,Iq⟩:=FC cA.Ir.1 j au;rw[←hx]at c4 c12 Li Iq;have HG:=aa (cA.gr HF.out au hx);obtain⟨a7,n7,k7,h7⟩:=bA cA.r.m;obtain⟨a8,n8,k8,h8⟩:=bA cA.r.l;obtain⟨a9,n9,k9,h9⟩:=bA cA.r.o;obtain⟨a10,n10,H6,Dn⟩:=bA cA.r.i;rw[h7]at c4;rw[h8]at Iq;rw[h9]at c12;rw[Dn]at Li;have HV:=aa (And.intro h7 (And.intro h8 (And.intro h9 Dn)));clear cA hs hx hlen h7 h8 h9 Dn;go_wp2_with fail;go_quiet (fail);rename_i nq;have Xo:Hid (zQ w lo hi b (.slice (some ⟨g,0,none⟩) xs.length c) xs j x (wr.drewN nq) (.slice a7 n7 k7) (.slice a8 n8 k8) (.slice a9 n9 k9) (.slice a10 n10 H6) 0 0 0 0 ((List.replicate x.r.ms.length (j*4+100)).flatMap Oh) (Ll x.r.mls.length (j*4+2)) (Ll x.r.inc.length (j*4+3)) (Ll x.r.labels.length (j*4+1))):=aa (by
      have h:=HG.out.below HF.out.lo (bS (aS _ wr) nq);rw[←HV.out.1,←HV.out.2.1,←HV.out.2.2.1,←HV.out.2.2.2];exact h)
     generalize wr.drewN nq=w2 at*
     clear c4 c12 Li Iq HG;go_wp2_with fail;go_loopw [7,8,9,10,11] (fun t7 t8 t9 t10 t11 W=> ∃k:Nat,t11= .int .i64 (k:Int)∧Hid (k≤12)∧Hid (zQ w lo hi b (.slice (some ⟨g,0,none⟩) xs.length c) xs j x W t7 t8 t9 t10 k k k k ((List.replicate x.r.ms.length (j*4+100)).flatMap Oh) (Ll x.r.mls.length (j*4+2)) (Ll x.r.inc.length (j*4+3)) (Ll x.r.labels.length (j*4+1)))) (fun _ _ _ _ t11 _=>12-(intOf t11).toNat)
     case atStart=>exact⟨0,rfl,aa (aT _),Xo⟩
     case round=>
      obtain⟨k,rfl,hk,hg⟩:=hrel;by_cases nU:k<12
      ·have p2:((k:Int)<12)=True:=az (by omega);obtain⟨X7,o7⟩:=hg.out.g7.own;obtain⟨a7,n7,d7,rfl⟩:=bA o7;have O7:=aa o7;clear o7;have WG:Hid (lo≤wr.heap.size):=aa (bn HF.out.lo hg.out.sp.1.size);go_wp2_with (at_builtin;refine ft rfl (.tmp 101) (.tmp 103) 39 rfl lo 65 _ 3 40 wj underlying39 rfl (by omega) _ _ _ rfl O7.out [.string ⟨#[103,114,111,119,110]⟩,.int .i64 0,.string ⟨#[]⟩] rfl (by rfl) (by intro u hu;simp at hu;rcases hu with rfl|rfl|rfl<;>rfl) (by have:=tg.out.1;unfold maxLen;omega) (by have:=tg.out.1;omega) WG.out ?_);intro XU W7 r1 r2 r3;rw[←lj]at r1;have HG7:=aa (hg.out.ah1 HF.out au HX.out O7.out r1 r2 r3);clear r1 r2 r3 hg;obtain⟨X8,o8⟩:=HG7.out.g8.own;obtain⟨a8,n8,d8,rfl⟩:=bA o8;obtain⟨_,o7⟩:=HG7.out.g7.own;obtain⟨_,_,_,rfl⟩:=bA o7;have O8:=aa o8;clear o7 o8;have alg:Hid (lo≤W7.heap.size):=aa (bn HF.out.lo HG7.out.sp.1.size);go_wp2_with (at_builtin;refine ft rfl (.tmp 105) (.tmp 106) 42 rfl lo 9 _ 1 16 kW underlying42 rfl (by omega) _ _ _ rfl O8.out [.string ⟨#[103,114,111,119,110]⟩] rfl (by rfl) (by intro u hu;simp at hu;rcases hu with rfl<;>rfl) (by have:=tg.out.2.2.2;unfold maxLen;omega) (by have:=tg.out.2.2.2;omega) alg.out ?_);intro t8' W8 r1 r2 r3;rw[←lj]at r1;have HG8:=aa (HG7.out.ah2 HF.out au HX.out O8.out r1 r2 r3);clear r1 r2 r3 HG7;obtain⟨X9,o9⟩:=HG8.out.g9.own;obtain⟨a9,n9,d9,rfl⟩:=bA o9;obtain⟨_,o7⟩:=HG8.out.g8.own;obtain⟨_,_,_,rfl⟩:=bA o7;have O9:=aa o9;clear o7 o9;have alh:Hid (lo≤W8.heap.size):=aa (bn HF.out.lo HG8.out.sp.1.size);go_wp2_with (at_builtin;refine ft rfl (.tmp 108) (.tmp 109) 42 rfl lo 9 _ 1 16 kW underlying42 rfl (by omega) _ _ _ rfl O9.out [.string ⟨#[103,114,111,119,110]⟩] rfl (by rfl) (by intro u hu;simp at hu;rcases hu with rfl<;>rfl) (by have:=tg.out.2.1;unfold maxLen;omega) (by have:=tg.out.2.1;omega) alh.out ?_);intro t9' W9 r1 r2 r3;rw[←lj]at r1;have HG9:=aa (HG8.out.ah3 HF.out au HX.out O9.out r1 r2 r3);clear r1 r2 r3 HG8;obtain⟨X10,o10⟩:=HG9.out.g10.own;obtain⟨a10,n10,d10,rfl⟩:=bA o10;obtain⟨_,o7⟩:=HG9.out.g9.own;obtain⟨_,_,_,rfl⟩:=bA o7;have O10:=aa o10;clear o7 o10;have ali:Hid (lo≤W9.heap.size):=aa (bn HF.out.lo HG9.out.sp.1.size);go_wp2_with (at_builtin;refine ft rfl (.tmp 111) (.tmp 112) 42 rfl lo 9 _ 1 16 kW underlying42 rfl (by omega) _ _ _ rfl O10.out [.string ⟨#[103,114,111,119,110]⟩] rfl (by rfl) (by intro u hu;simp at hu;rcases hu with rfl<;>rfl) (by have:=tg.out.2.2.1;unfold maxLen;omega) (by have:=tg.out.2.2.1;omega) ali.out ?_);intro abQ W10 r1 r2 r3;rw[←lj]at r1;have ag9:=aa (HG9.out.acK HF.out au HX.out O10.out r1 r2 r3);clear r1 r2 r3 HG9;obtain⟨_,o7⟩:=ag9.out.g10.own;obtain⟨_,_,_,rfl⟩:=bA o7;clear o7;go_wp2_with fail;go_roundw
       case rel=>exact⟨k+1,by go_num,aa nU,ag9⟩
       case measure=>simp[intOf];omega
      ·have p2:((k:Int)<12)=False:=bL (by omega);have HN:Hid (Dz lo b (.slice (some ⟨g,0,none⟩) xs.length c) xs xs.length wr∧fQ lo hi w wr):=aa ⟨hg.out.spj au HX.out,hg.out.sp⟩;go_wp2_with fail;go_roundw
       case rel=>exact⟨j+1,by go_num,aa au,HN⟩
       case measure=>simp[intOf];omega
    ·have p1:((j:Int)<(xs.length:Int))=False:=bL (by omega);go_wp2_with fail;refine(HMK.out _ hs.out.1).mono ?_;rintro e W2 ⟨rfl,aM⟩;have nt:Hid (fQ lo hi w W2):=aa (hs.out.2.below HF.out.lo aM);clear aM hs;go_wp2_with fail;go_ret;exact⟨rfl,nt.out⟩
