import Derived.Test.YtibcjfjacielbaaGreatDoorH30
import Derived.Test.YtibcjfjacielbaaGreatDoorH37
/- Part of the proof of YtibcjfjacielbaaGreatDoorCardH: TkD TkE TkF TkG TkH TkI. -/
set_option maxRecDepth 100000
set_option maxHeartbeats 4000000
set_option linter.unusedVariables false
set_option linter.unusedSimpArgs false
namespace Go.Proofs.YtibcjfjacielbaaGreatDoor
open Go.RowKit
def mkC (z:Nat):List Value:=[.string ⟨#[109,97,114,107,101,100]⟩,.int .i64 (z:Int),.string ⟨#[]⟩]
structure Mk (b:Nat) (W:World) (j:Nat) (x:WI):Prop where
 m:W.ownsRow b 38 3 x.m x.r.ms.length ((List.replicate x.r.ms.length (j*4+100)).flatMap mkC)
 o:W.ownsRow b 9 1 x.o x.r.mls.length (List.replicate x.r.mls.length (.string (markS (j*4+2))))
 i:W.ownsRow b 9 1 x.i x.r.inc.length (List.replicate x.r.inc.length (.string (markS (j*4+3))))
 l:W.ownsRow b 9 1 x.l x.r.labels.length (List.replicate x.r.labels.length (.string (markS (j*4+1))))
theorem Mk.below {b j:Nat} {W W':World} {x:WI} (h:Mk b W j x) (hb:Below W.heap.size W W'):Mk b W' j x:=⟨own_belowE h.m hb,own_belowE h.o hb,own_belowE h.i hb,own_belowE h.l hb⟩
theorem marked_is {b b' : Nat} {w : World} {vv : Value} {xs : List WI} (ho : w.ownsRow b 58 17 vv xs.length (xs.flatMap WI.cs)) (hm : ∀ j (h : j < xs.length), Mk b' w j xs[j]) (hn : xs.length ≤ 4294967296) (hl : ∀ x ∈ xs, LenOK x.r) :
    Calls Tryz.prog 71 #[vv] w (BoolPost w true):=by
  obtain⟨ao,c,rfl,hc⟩:=own_flat WI.cs 17 (fun _=>rfl) xs ho
  have HC:=Lib.hid hc
  have HM:=Lib.hid hm
  have HL:=Lib.hid hl
  clear hc hm ho hl
  go_enter Tryz.func71,Tryz.ntmps71
  go_wp2_with fail
  go_loopw [3] (fun t3 W=> ∃j:Nat,t3= .int .i64 (j:Int)∧Hid (j≤xs.length)∧Hid (Below w.heap.size w W)) (fun t3 _=>xs.length-(intOf t3).toNat)
  case atStart=>exact⟨0,rfl,Lib.hid (Nat.zero_le _),Lib.hid (Below.refl _ _)⟩
  case round =>
    obtain⟨j,rfl,hj,hb⟩:=hrel
    by_cases hlt:j<xs.length
    · have p1 : ((j : Int) < (xs.length : Int)) = True := eq_true (by omega)
      obtain⟨g,o,rfl,_,hg,hcell⟩:=HC.out j hlt
      obtain⟨x,hx⟩: ∃x,x=xs[j]:=⟨_,rfl⟩
      have hmk:=HM.out j hlt
      have hlx:=HL.out xs[j] (List.getElem_mem hlt)
      rw[←hx]at hmk hlx hcell
      clear hx
      obtain⟨am,cm,hvm,hmc⟩:=own_flat mkC 3 (fun _=>rfl) (List.replicate x.r.ms.length (j*4+100)) (by rw[List.length_replicate];exact hmk.m)
      rw[List.length_replicate]at hvm
      have HCW : Hid (∀ W, Below w.heap.size w W → W.cell? ⟨g, o + j * 17 + 4, none⟩ = some (.slice am x.r.ms.length cm) ∧ W.cell? ⟨g, o + j * 17 + 12, none⟩ = some x.o ∧ W.cell? ⟨g, o + j * 17 + 14, none⟩ = some x.i ∧ W.cell? ⟨g, o + j * 17 + 16, none⟩ = some x.l) := Lib.hid fun W hbw => by
        have h:=fun k hk=>(hbw.cell (p:=⟨g,o+j*17+k,none⟩) hg).trans (hcell k hk)
        exact⟨(h 4 (by omega)).trans (congrArg some hvm),h 12 (by omega),h 14 (by omega),h 16 (by omega)⟩
      have HMC : Hid (∀ W, Below w.heap.size w W → ∀ k, k < x.r.ms.length → ∃ gm om, am = some ⟨gm, om, none⟩ ∧ W.cell? ⟨gm, om + k * 3 + 1, none⟩ = some (.int .i64 ((j : Int) * 4 + 100))) := Lib.hid fun W hbw k hk => by
        obtain⟨gm,om,ha,_,hgm,hcc⟩:=hmc k (by rw[List.length_replicate];exact hk)
        refine⟨gm,om,ha,(hbw.cell (p:=⟨gm,om+k*3+1,none⟩) hgm).trans ((hcc 1 (by omega)).trans ?_)⟩
        simp[mkC]
      have HH : Hid (∀ W, Below w.heap.size w W → Calls Tryz.prog 125 #[x.o, .int .i64 ((j : Int) * 4 + 2)] W (BoolPost W true) ∧ Calls Tryz.prog 125 #[x.i, .int .i64 ((j : Int) * 4 + 3)] W (BoolPost W true) ∧ Calls Tryz.prog 125 #[x.l, .int .i64 ((j : Int) * 4 + 1)] W (BoolPost W true)) := Lib.hid fun W hbw =>
        ⟨by have := holds_is (own_belowE hmk.o hbw) hlx.2.1 (show j * 4 + 2 < 1099511627776 by omega); rw [show ((j * 4 + 2 : Nat) : Int) = (j : Int) * 4 + 2 by omega] at this; exact this,
         by have:=holds_is (own_belowE hmk.i hbw) hlx.2.2.1 (show j*4+3<1099511627776 by omega);rw[show ((j*4+3:Nat):Int)=(j:Int)*4+3 by omega]at this;exact this,
         by have:=holds_is (own_belowE hmk.l hbw) hlx.2.2.2 (show j*4+1<1099511627776 by omega);rw[show ((j*4+1:Nat):Int)=(j:Int)*4+1 by omega]at this;exact this⟩
      have hnm:x.r.ms.length≤1099511627776:=hlx.1
      clear hmk hlx hcell hmc hvm
      obtain⟨c4,c12,c14,c16⟩:=HCW.out wr hb.out
      go_wp2_with fail
      go_loopw [4] (fun t4 W=> ∃k:Nat,t4= .int .i64 (k:Int)∧Hid (k≤x.r.ms.length)∧W=wr) (fun t4 _=>x.r.ms.length-(intOf t4).toNat)
      case atStart=>exact⟨0,rfl,Lib.hid (Nat.zero_le _),rfl⟩
      case round =>
        obtain⟨k,rfl,hk,rfl⟩:=hrel
        by_cases hkl:k<x.r.ms.length
        · have p2 : ((k : Int) < (x.r.ms.length : Int)) = True := eq_true (by omega)
          obtain⟨gm,om,rfl,cM⟩:=HMC.out _ hb.out k hkl
          go_wp2_with fail
          go_roundw
          case rel=>exact⟨k+1,by go_num,Lib.hid hkl,trivial⟩
          case measure=>simp[intOf];omega
        · have p2 : ((k : Int) < (x.r.ms.length : Int)) = False := eq_false (by omega)
          go_wp2_with fail
          refine(HH.out _ hb.out).2.2.mono ?_
          rintro e W1 ⟨rfl,hb1⟩
          have HB1:Hid (Below w.heap.size w W1):=Lib.hid (hb.out.trans (hb1.mono hb.out.size))
          obtain⟨_,d12,d14,_⟩:=HCW.out _ HB1.out
          clear hb1
          go_wp2_with fail
          refine(HH.out _ HB1.out).1.mono ?_
          rintro e W2 ⟨rfl,hb2⟩
          have HB2:Hid (Below w.heap.size w W2):=Lib.hid (HB1.out.trans (hb2.mono HB1.out.size))
          obtain⟨_,e12,e14,_⟩:=HCW.out _ HB2.out
          clear hb2
          go_wp2_with fail
          refine(HH.out _ HB2.out).2.1.mono ?_
          rintro e W3 ⟨rfl,hb3⟩
          have HB3:Hid (Below w.heap.size w W3):=Lib.hid (HB2.out.trans (hb3.mono HB2.out.size))
          clear hb3
          go_wp2_with fail
          go_roundw
          case rel=>exact⟨j+1,by go_num,Lib.hid hlt,HB3⟩
          case measure=>simp[intOf];omega
    · have p1 : ((j : Int) < (xs.length : Int)) = False := eq_false (by omega)
      go_wp2_with fail
      go_ret
      exact⟨rfl,hb.out⟩
theorem own_store3 {W:World} {b g n c k:Nat} {e:TypeId} {A B:List Value} {x y z x' y' z':Value} (h:W.ownsRow b e 3 (.slice (some ⟨g,0,none⟩) n c) n (A++[x,y,z]++B)) (hk:A.length=k):
  (((W.setCell ⟨g,k,none⟩ x').setCell ⟨g,k+1,none⟩ y').setCell ⟨g,k+2,none⟩ z').ownsRow b e 3 (.slice (some ⟨g,0,none⟩) n c) n (A++[x',y',z']++B)∧W.grownBy (((W.setCell ⟨g,k,none⟩ x').setCell ⟨g,k+1,none⟩ y').setCell ⟨g,k+2,none⟩ z') (some g):=by
 subst hk;obtain⟨h1,g1⟩:=h.stored A.length x';obtain⟨h2,g2⟩:=h1.stored (A.length+1) y';obtain⟨h3,g3⟩:=h2.stored (A.length+2) z';refine⟨?_,grow_trans (grow_trans g1 g2) g3⟩;simpa [List.set_append_right]using h3
def Spare (lo hi:Nat) (w W:World):Prop:=Below lo w W∧Agree hi w W
theorem Spare.refl (lo hi:Nat) (w:World):Spare lo hi w w:=⟨Below.refl _ _,Agree.refl _ _⟩
theorem Spare.below {lo hi:Nat} {w W W':World} (h:Spare lo hi w W) (hl:lo≤w.heap.size) (hb:Below W.heap.size W W'):Spare lo hi w W':=⟨h.1.trans (hb.mono (Nat.le_trans hl h.1.size)),h.2.below hb⟩
theorem Spare.grow {lo hi:Nat} {w W W':World} {v:Value} (h:Spare lo hi w W) (hl:lo≤w.heap.size) (hg:W.grownBy W' v.ownBlock) (hv: ∀q,v.ownBlock=some q→lo≤q∧(q<hi∨w.heap.size≤q)):Spare lo hi w W':=
 ⟨h.1.grown hg (Nat.le_trans hl h.1.size) fun q e=>(hv q e).1,h.2.grow hg fun q e=>(hv q e).2⟩
def WI.Under (hi:Nat) (x:WI):Prop:= ∀u∈[x.m,x.o,x.i,x.l],∀g,u.ownBlock=some g→g<hi
def SpJ (lo b:Nat) (vv:Value) (xs:List WI) (j:Nat) (W:World):Prop:=
 W.ownsRow b 58 17 vv xs.length (xs.flatMap WI.cs)∧ ∀i (h:i<xs.length),(i<j→Mk lo W i xs[i])∧(j≤i→RowOwn lo W xs[i].r xs[i].m xs[i].o xs[i].i xs[i].l)
theorem SpJ.below {lo b j:Nat} {vv:Value} {xs:List WI} {W W':World} (h:SpJ lo b vv xs j W) (hb:Below W.heap.size W W'):SpJ lo b vv xs j W':=
 ⟨own_belowE h.1 hb,fun i hi=>⟨fun h'=>((h.2 i hi).1 h').below hb,fun h'=>((h.2 i hi).2 h').below hb⟩⟩
theorem Apart.row {u v:Value} (h:Apart u v):u.ownBlock=none∨u.ownBlock≠v.ownBlock:=by
 cases e:u.ownBlock with
 |none=>exact .inl rfl
 |some g=>exact .inr fun e'=>h g e e'.symm
theorem Mk.off {lo i:Nat} {x:WI} {v:Value} {W W':World} (h:Mk lo W i x) (hg:W.grownBy W' v.ownBlock) (hv: ∀u∈[x.m,x.o,x.i,x.l],Apart u v):Mk lo W' i x:=
 ⟨h.m.kept hg (hv _ (by simp)).row,h.o.kept hg (hv _ (by simp)).row,h.i.kept hg (hv _ (by simp)).row,h.l.kept hg (hv _ (by simp)).row⟩
theorem RowOwn.off {lo:Nat} {x:WI} {v:Value} {W W':World} (h:RowOwn lo W x.r x.m x.o x.i x.l) (hg:W.grownBy W' v.ownBlock) (hv: ∀u∈[x.m,x.o,x.i,x.l],Apart u v):RowOwn lo W' x.r x.m x.o x.i x.l:=
 ⟨h.m.kept hg (hv _ (by simp)).row,h.o.kept hg (hv _ (by simp)).row,h.i.kept hg (hv _ (by simp)).row,h.l.kept hg (hv _ (by simp)).row,h.oi,h.ol,h.il⟩
def WI.ls (x:WI):List Value:=[x.m,x.o,x.i,x.l]
def Oth (lo b:Nat) (vv:Value) (xs:List WI) (i N:Nat) (W:World):Prop:=
 W.ownsRow b 58 17 vv xs.length (xs.flatMap WI.cs)∧ ∀j (h:j<xs.length),j≠i→(j<N→Mk lo W j xs[j])∧(N≤j→RowOwn lo W xs[j].r xs[j].m xs[j].o xs[j].i xs[j].l)
structure Fx (w:World) (lo hi:Nat) (xs:List WI):Prop where
 far:xs.Pairwise WI.Far
 under: ∀x∈xs,x.Under hi
 oil: ∀x∈xs,Apart x.o x.i∧Apart x.o x.l∧Apart x.i x.l
 len: ∀x∈xs,LenOK x.r
 lo:lo≤w.heap.size
 hi:hi≤w.heap.size
theorem far_at {xs:List WI} (h:xs.Pairwise WI.Far) {i j:Nat} (hi:i<xs.length) (hj:j<xs.length) (hne:j≠i): ∀u∈xs[j].ls,∀v∈xs[i].ls,Apart u v:=by
 intro u hu v hv;rcases Nat.lt_or_gt_of_ne hne with h1|h1
 ·exact List.pairwise_iff_getElem.1 h j i hj hi h1 u hu v hv
 ·exact(List.pairwise_iff_getElem.1 h i j hi hj h1 v hv u hu).symm
theorem Oth.below {lo b i N:Nat} {vv:Value} {xs:List WI} {W W':World} (h:Oth lo b vv xs i N W) (hb:Below W.heap.size W W'):Oth lo b vv xs i N W':=
 ⟨own_belowE h.1 hb,fun j hj hne=>⟨fun h'=>((h.2 j hj hne).1 h').below hb,fun h'=>((h.2 j hj hne).2 h').below hb⟩⟩
theorem Oth.off {lo b i N:Nat} {vv v:Value} {xs:List WI} {W W':World} (h:Oth lo b vv xs i N W) (hg:W.grownBy W' v.ownBlock) (hr:vv.ownBlock=none∨vv.ownBlock≠v.ownBlock)
  (hv: ∀j (hj:j<xs.length),j≠i→ ∀u∈xs[j].ls,Apart u v):Oth lo b vv xs i N W':=
 ⟨h.1.kept hg hr,fun j hj hne=>⟨fun h'=>((h.2 j hj hne).1 h').off hg (hv j hj hne),fun h'=>((h.2 j hj hne).2 h').off hg (hv j hj hne)⟩⟩
theorem SpJ.oth {lo b N:Nat} {vv:Value} {xs:List WI} {W:World} (h:SpJ lo b vv xs N W) (i:Nat):Oth lo b vv xs i N W:=⟨h.1,fun j hj _=>h.2 j hj⟩
theorem Oth.step {lo b i:Nat} {vv:Value} {xs:List WI} {W:World} (h:Oth lo b vv xs i i W) (hi:i<xs.length) (hm:Mk lo W i xs[i]):SpJ lo b vv xs (i+1) W:=
 ⟨h.1,fun j hj=>by
  by_cases e:j=i
  ·subst e;exact⟨fun _=>hm,fun h'=>by omega⟩
  ·exact⟨fun h'=>(h.2 j hj e).1 (by omega),fun h'=>(h.2 j hj e).2 (by omega)⟩⟩
theorem Oth.all {lo b i:Nat} {vv:Value} {xs:List WI} {W:World} (h:Oth lo b vv xs i xs.length W) (hi:i<xs.length) (hm:Mk lo W i xs[i]):SpJ lo b vv xs xs.length W:=
 ⟨h.1,fun j hj=>by
  by_cases e:j=i
  ·subst e;exact⟨fun _=>hm,fun h'=>by omega⟩
  ·exact h.2 j hj e⟩
structure R4 (lo:Nat) (W:World) (x:WI) (M O I L:List Value):Prop where
 m:W.ownsRow lo 38 3 x.m x.r.ms.length M
 o:W.ownsRow lo 9 1 x.o x.r.mls.length O
 i:W.ownsRow lo 9 1 x.i x.r.inc.length I
 l:W.ownsRow lo 9 1 x.l x.r.labels.length L
structure St (w:World) (lo hi b:Nat) (vv:Value) (xs:List WI) (i N:Nat) (x:WI) (W:World) (M O I L:List Value):Prop where
 oth:Oth lo b vv xs i N W
 r:R4 lo W x M O I L
 sp:Spare lo hi w W
theorem apart_types {w:World} {b1 b2 s1 s2 n1 n2:Nat} {e1 e2:TypeId} {v1 v2:Value} {x1 x2:List Value} (h1:w.ownsRow b1 e1 s1 v1 n1 x1) (h2:w.ownsRow b2 e2 s2 v2 n2 x2) (hne:e1≠e2):Apart v1 v2:=fun g h3 h4=>by
 rcases own_own_ne h1 h2 hne with h|h
 ·rw[h]at h3;cases h3
 ·exact h (h3.trans h4.symm)
theorem St.put {w W W':World} {lo hi b i N:Nat} {vv u:Value} {xs:List WI} {x:WI} {M O I L:List Value} (h:St w lo hi b vv xs i N x W M O I L) (hF:Fx w lo hi xs) (hi':i<xs.length) (hx:x=xs[i]) (hu:u∈x.ls)
  {e:TypeId} {sz n:Nat} {ys:List Value} (hw:W.ownsRow lo e sz u n ys) (he:e≠58) (hg:W.grownBy W' u.ownBlock):Oth lo b vv xs i N W'∧Spare lo hi w W':=by
 subst hx;refine⟨h.oth.off hg (own_own_ne h.oth.1 hw (Ne.symm he)) fun j hj hne v hv=>far_at hF.far hi' hj hne v hv u hu,h.sp.grow hF.lo hg fun q hq=>⟨(hw.lt q hq).1,.inl ?_⟩⟩;exact hF.under _ (List.getElem_mem hi') u hu q hq
theorem St.m {w W W':World} {lo hi b i N:Nat} {vv:Value} {xs:List WI} {x:WI} {M O I L M':List Value} (h:St w lo hi b vv xs i N x W M O I L) (hF:Fx w lo hi xs) (hi':i<xs.length) (hx:x=xs[i])
  (hw:W'.ownsRow lo 38 3 x.m x.r.ms.length M') (hg:W.grownBy W' x.m.ownBlock):St w lo hi b vv xs i N x W' M' O I L:=by
 obtain⟨h1,h2⟩:=h.put hF hi' hx (by simp[WI.ls]) h.r.m (by decide) hg;exact⟨h1,⟨hw,h.r.o.kept hg (own_own_ne h.r.o h.r.m (by decide)),h.r.i.kept hg (own_own_ne h.r.i h.r.m (by decide)),h.r.l.kept hg (own_own_ne h.r.l h.r.m (by decide))⟩,h2⟩
theorem St.l {w W W':World} {lo hi b i N:Nat} {vv:Value} {xs:List WI} {x:WI} {M O I L L':List Value} (h:St w lo hi b vv xs i N x W M O I L) (hF:Fx w lo hi xs) (hi':i<xs.length) (hx:x=xs[i])
  (hw:W'.ownsRow lo 9 1 x.l x.r.labels.length L') (hg:W.grownBy W' x.l.ownBlock):St w lo hi b vv xs i N x W' M O I L':=by
 obtain⟨h1,h2⟩:=h.put hF hi' hx (by simp[WI.ls]) h.r.l (by decide) hg;have ha:=hF.oil x (by rw[hx];exact List.getElem_mem hi');exact⟨h1,⟨h.r.m.kept hg (own_own_ne h.r.m h.r.l (by decide)),h.r.o.kept hg ha.2.1.row,h.r.i.kept hg ha.2.2.row,hw⟩,h2⟩
theorem St.o {w W W':World} {lo hi b i N:Nat} {vv:Value} {xs:List WI} {x:WI} {M O I L O':List Value} (h:St w lo hi b vv xs i N x W M O I L) (hF:Fx w lo hi xs) (hi':i<xs.length) (hx:x=xs[i])
  (hw:W'.ownsRow lo 9 1 x.o x.r.mls.length O') (hg:W.grownBy W' x.o.ownBlock):St w lo hi b vv xs i N x W' M O' I L:=by
 obtain⟨h1,h2⟩:=h.put hF hi' hx (by simp[WI.ls]) h.r.o (by decide) hg;have ha:=hF.oil x (by rw[hx];exact List.getElem_mem hi');exact⟨h1,⟨h.r.m.kept hg (own_own_ne h.r.m h.r.o (by decide)),hw,h.r.i.kept hg ha.1.symm.row,h.r.l.kept hg ha.2.1.symm.row⟩,h2⟩
theorem St.i {w W W':World} {lo hi b i N:Nat} {vv:Value} {xs:List WI} {x:WI} {M O I L I':List Value} (h:St w lo hi b vv xs i N x W M O I L) (hF:Fx w lo hi xs) (hi':i<xs.length) (hx:x=xs[i])
  (hw:W'.ownsRow lo 9 1 x.i x.r.inc.length I') (hg:W.grownBy W' x.i.ownBlock):St w lo hi b vv xs i N x W' M O I' L:=by
 obtain⟨h1,h2⟩:=h.put hF hi' hx (by simp[WI.ls]) h.r.i (by decide) hg;have ha:=hF.oil x (by rw[hx];exact List.getElem_mem hi');exact⟨h1,⟨h.r.m.kept hg (own_own_ne h.r.m h.r.i (by decide)),h.r.o.kept hg ha.1.row,hw,h.r.l.kept hg ha.2.2.symm.row⟩,h2⟩
theorem row_cells {b g c:Nat} {W:World} {xs:List WI} (h:W.ownsRow b 58 17 (.slice (some ⟨g,0,none⟩) xs.length c) xs.length (xs.flatMap WI.cs)) (j:Nat) (hj:j<xs.length):
  W.cell? ⟨g,j*17+4,none⟩=some xs[j].m∧W.cell? ⟨g,j*17+12,none⟩=some xs[j].o∧W.cell? ⟨g,j*17+14,none⟩=some xs[j].i∧W.cell? ⟨g,j*17+16,none⟩=some xs[j].l:=by
 obtain⟨ao,c',hv,hc⟩:=own_flat WI.cs 17 (fun _=>rfl) xs h;injection hv with h1 h2 h3
 subst h1;obtain⟨g',o,he,_,_,hk⟩:=hc j hj;injection he with he
 injection he with e1 e2
 subst e1 e2;have z:=fun k hk'=>hk k hk'
 simp only[Nat.zero_add]at z;exact⟨z 4 (by omega),z 12 (by omega),z 14 (by omega),z 16 (by omega)⟩
structure Gz (lo N:Nat) (W:World) (v t:Value) (e:TypeId) (sz n k:Nat) (A:List Value):Prop where
 own: ∃X,W.ownsRow lo e sz t (n+k) (A++X)
 base:W.ownsRow lo e sz v n A
 blk: ∀q,t.ownBlock=some q→v.ownBlock=some q∨N≤q
theorem Gz.start {lo N n sz:Nat} {W:World} {v:Value} {e:TypeId} {A:List Value} (h:W.ownsRow lo e sz v n A):Gz lo N W v v e sz n 0 A:=⟨⟨[],by rw[List.append_nil];exact h⟩,h,fun q hq=>.inl hq⟩
theorem Gz.below {lo N n k sz:Nat} {W W':World} {v t:Value} {e:TypeId} {A:List Value} (h:Gz lo N W v t e sz n k A) (hb:Below W.heap.size W W'):Gz lo N W' v t e sz n k A:=by
 obtain⟨⟨X,h1⟩,h2,h3⟩:=h;exact⟨⟨X,own_belowE h1 hb⟩,own_belowE h2 hb,h3⟩
theorem Gz.off {lo N n k sz:Nat} {W W':World} {v t s:Value} {e:TypeId} {A:List Value} (h:Gz lo N W v t e sz n k A) (hg:W.grownBy W' s.ownBlock) (h1:Apart t s) (h2:Apart v s):Gz lo N W' v t e sz n k A:=by
 obtain⟨⟨X,h3⟩,h4,h5⟩:=h;exact⟨⟨X,h3.kept hg h1.row⟩,h4.kept hg h2.row,h5⟩
theorem push_base {w w':World} {b:Nat} {e:TypeId} {size n m k g0:Nat} {av gv gv':Value} {A X us:List Value} (ha:w.ownsRow b e size av n A) (hg:w.ownsRow b e size gv m (A++X))
  (hr:w'.ownsRow b e size gv' (m+k) (A++X++us)) (hgr:w.grownBy w' gv.ownBlock) (halt:SameBlk gv gv'∨(gv'.ownBlock=some g0∧w.grownBy w' none)):w'.ownsRow b e size av n A:=by
 rcases halt with⟨g,n1,m1,cp,rfl,rfl⟩|⟨_,h⟩
 ·by_cases hs:av.ownBlock=some g
  ·rcases ha.2 with hn|⟨g0,cap,cur,rfl,c1,c2,c3,c4,c5,c6⟩
   ·exact⟨ha.1,.inl hn⟩
   ·obtain rfl:g0=g:=by simpa [Value.ownBlock]using hs
    rcases hr.2 with⟨hv,_⟩|⟨g',cap',cur',hv,d1,d2,d3,d4,d5,d6⟩
    ·cases hv
    ·rcases hg.2 with⟨hv2,_⟩|⟨g2,cap2,cur2,hv2,f1,f2,f3,f4,f5,f6⟩
     ·cases hv2
     ·simp only[Value.slice.injEq,Option.some.injEq,Addr.mk.injEq,and_true,true_and]at hv hv2;obtain⟨rfl,rfl,rfl⟩:=hv;obtain⟨rfl,rfl,rfl⟩:=hv2;rw[c2]at f2;simp only[Option.some.injEq,Obj.cells.injEq,and_true,true_and]at f2;subst f2;refine⟨ha.1,.inr ⟨g0,cap,cur',rfl,c1,d2,c3,c4,by rw[d5,←f5,c5],?_⟩⟩;have hA:A.length=n*size:=ha.1;have h1:=congrArg (List.take (n*size)) d6;have h2:=hr.1;rw[List.length_append,List.length_append]at h2;rw[List.take_take,Nat.min_eq_left (by omega),List.append_assoc,←hA,List.take_left]at h1;rw[←hA];exact h1
  ·exact own_grown ha hgr fun g1 hg1 hgv=>hs (by rw[hg1];exact hgv)
 ·exact own_grown ha h fun g _ hgv=>by cases hgv
theorem Gz.push {lo N n k sz:Nat} {W W':World} {v t t':Value} {e:TypeId} {A X us:List Value} (h:Gz lo N W v t e sz n k A) (hx:W.ownsRow lo e sz t (n+k) (A++X)) (hN:N≤W.heap.size)
  (r1:W'.ownsRow lo e sz t' (n+k+1) (A++X++us)) (r2:W.grownBy W' t.ownBlock) (r3:SameBlk t t'∨(t'.ownBlock=some (W.heap.size+1)∧W.grownBy W' none)):Gz lo N W' v t' e sz n (k+1) A:=by
 refine⟨⟨X++us,by rw[←List.append_assoc];exact r1⟩,push_base h.base hx r1 r2 r3,fun q hq=>?_⟩;rcases r3 with⟨g,n',m',cap,rfl,rfl⟩|⟨r3,_⟩
 ·exact h.blk q hq
 ·rw[r3]at hq;injection hq with hq;right;omega
theorem apart_push {lo n sz:Nat} {W W':World} {t t' u:Value} {e:TypeId} {ys:List Value} (h:Apart t u) (hu:W.ownsRow lo e sz u n ys) (r3:SameBlk t t'∨(t'.ownBlock=some (W.heap.size+1)∧W.grownBy W' none)):Apart t' u:=by
 intro q h1 h2;rcases r3 with⟨g,n',m',cap,rfl,rfl⟩|⟨r3,_⟩
 ·exact h q h1 h2
 ·rw[r3]at h1;injection h1 with h1
  have:=(hu.lt q h2).2;omega
structure GrJ (w:World) (lo hi b:Nat) (vv:Value) (xs:List WI) (i:Nat) (x:WI) (W:World) (t7 t8 t9 t10:Value) (k7 k8 k9 k10:Nat) (M O I L:List Value):Prop where
 oth:Oth lo b vv xs i xs.length W
 sp:Spare lo hi w W
 g7:Gz lo w.heap.size W x.m t7 38 3 x.r.ms.length k7 M
 g8:Gz lo w.heap.size W x.l t8 9 1 x.r.labels.length k8 L
 g9:Gz lo w.heap.size W x.o t9 9 1 x.r.mls.length k9 O
 g10:Gz lo w.heap.size W x.i t10 9 1 x.r.inc.length k10 I
 a89:Apart t8 t9
 a80:Apart t8 t10
 a90:Apart t9 t10
theorem GrJ.below {w W W':World} {lo hi b i:Nat} {vv t7 t8 t9 t10:Value} {xs:List WI} {x:WI} {k7 k8 k9 k10:Nat} {M O I L:List Value} (h:GrJ w lo hi b vv xs i x W t7 t8 t9 t10 k7 k8 k9 k10 M O I L) (hl:lo≤w.heap.size) (hb:Below W.heap.size W W'):GrJ w lo hi b vv xs i x W' t7 t8 t9 t10 k7 k8 k9 k10 M O I L:=
 ⟨h.oth.below hb,h.sp.below hl hb,h.g7.below hb,h.g8.below hb,h.g9.below hb,h.g10.below hb,h.a89,h.a80,h.a90⟩
theorem St.gr {w W:World} {lo hi b i:Nat} {vv:Value} {xs:List WI} {x:WI} {M O I L:List Value} (h:St w lo hi b vv xs i xs.length x W M O I L) (hF:Fx w lo hi xs) (hi':i<xs.length) (hx:x=xs[i]):GrJ w lo hi b vv xs i x W x.m x.l x.o x.i 0 0 0 0 M O I L:=by
 have ha:=hF.oil x (by rw[hx];exact List.getElem_mem hi');exact⟨h.oth,h.sp,.start h.r.m,.start h.r.l,.start h.r.o,.start h.r.i,ha.2.1.symm,ha.2.2.symm,ha.1⟩
theorem gz_apart {lo N n k sz:Nat} {W:World} {v t u:Value} {e:TypeId} {A:List Value} (h:Gz lo N W v t e sz n k A) (ha:Apart u v) (hu: ∀q,u.ownBlock=some q→q<N):Apart u t:=by
 intro q h1 h2;rcases h.blk q h2 with h3|h3
 ·exact ha q h1 h3
 ·have:=hu q h1;omega
theorem gz_types {lo N n k sz n2 k2 sz2:Nat} {W:World} {v t v2 t2:Value} {e e2:TypeId} {A A2:List Value} (h:Gz lo N W v t e sz n k A) (h2:Gz lo N W v2 t2 e2 sz2 n2 k2 A2) (he:e≠e2):Apart t t2∧Apart v t2:=by
 obtain⟨X,hX⟩:=h.own;obtain⟨Y,hY⟩:=h2.own;exact⟨apart_types hX hY he,apart_types h.base hY he⟩
theorem GrJ.put {w W W':World} {lo hi b i:Nat} {vv u t:Value} {xs:List WI} {x:WI} (ho:Oth lo b vv xs i xs.length W) (hs:Spare lo hi w W) (hF:Fx w lo hi xs) (hi':i<xs.length) (hx:x=xs[i]) (hu:u∈x.ls)
  {e:TypeId} {sz n k:Nat} {A:List Value} (hz:Gz lo w.heap.size W u t e sz n k A) (he:e≠58) (hg:W.grownBy W' t.ownBlock):Oth lo b vv xs i xs.length W'∧Spare lo hi w W':=by
 obtain⟨X,hX⟩:=hz.own;subst hx;refine⟨ho.off hg (own_own_ne ho.1 hX (Ne.symm he)) fun j hj hne v hv=>gz_apart hz (far_at hF.far hi' hj hne v hv u hu) fun q hq=>?_,hs.grow hF.lo hg fun q hq=>⟨(hX.lt q hq).1,?_⟩⟩
 ·have:=hF.under _ (List.getElem_mem hj) v hv q hq;exact Nat.lt_of_lt_of_le this hF.hi
 ·rcases hz.blk q hq with h|h
  ·exact .inl (hF.under _ (List.getElem_mem hi') u hu q h)
  ·exact .inr h
theorem Fx.small {w:World} {lo hi:Nat} {xs:List WI} (hF:Fx w lo hi xs) {x:WI} (hx:x∈xs) {u:Value} (hu:u∈x.ls): ∀q,u.ownBlock=some q→q<w.heap.size:=fun q hq=>Nat.lt_of_lt_of_le (hF.under x hx u hu q hq) hF.hi
theorem GrJ.push7 {w W W':World} {lo hi b i:Nat} {vv t7 t8 t9 t10 t':Value} {xs:List WI} {x:WI} {k7 k8 k9 k10:Nat} {M O I L X us:List Value} (h:GrJ w lo hi b vv xs i x W t7 t8 t9 t10 k7 k8 k9 k10 M O I L) (hF:Fx w lo hi xs) (hi':i<xs.length) (hx:x=xs[i])
  (ht:W.ownsRow lo 38 3 t7 (x.r.ms.length+k7) (M++X)) (r1:W'.ownsRow lo 38 3 t' (x.r.ms.length+k7+1) (M++X++us)) (r2:W.grownBy W' t7.ownBlock) (r3:SameBlk t7 t'∨(t'.ownBlock=some (W.heap.size+1)∧W.grownBy W' none)):
  GrJ w lo hi b vv xs i x W' t' t8 t9 t10 (k7+1) k8 k9 k10 M O I L:=by
 obtain⟨h1,h2⟩:=GrJ.put h.oth h.sp hF hi' hx (by simp[WI.ls]) h.g7 (by decide) r2;have t8':=gz_types h.g8 h.g7 (by decide);have t9':=gz_types h.g9 h.g7 (by decide);have t10':=gz_types h.g10 h.g7 (by decide);exact⟨h1,h2,h.g7.push ht h.sp.1.size r1 r2 r3,h.g8.off r2 t8'.1 t8'.2,h.g9.off r2 t9'.1 t9'.2,h.g10.off r2 t10'.1 t10'.2,h.a89,h.a80,h.a90⟩
theorem GrJ.push8 {w W W':World} {lo hi b i:Nat} {vv t7 t8 t9 t10 t':Value} {xs:List WI} {x:WI} {k7 k8 k9 k10:Nat} {M O I L X us:List Value} (h:GrJ w lo hi b vv xs i x W t7 t8 t9 t10 k7 k8 k9 k10 M O I L) (hF:Fx w lo hi xs) (hi':i<xs.length) (hx:x=xs[i])
  (ht:W.ownsRow lo 9 1 t8 (x.r.labels.length+k8) (L++X)) (r1:W'.ownsRow lo 9 1 t' (x.r.labels.length+k8+1) (L++X++us)) (r2:W.grownBy W' t8.ownBlock) (r3:SameBlk t8 t'∨(t'.ownBlock=some (W.heap.size+1)∧W.grownBy W' none)):
  GrJ w lo hi b vv xs i x W' t7 t' t9 t10 k7 (k8+1) k9 k10 M O I L:=by
 obtain⟨h1,h2⟩:=GrJ.put h.oth h.sp hF hi' hx (by simp[WI.ls]) h.g8 (by decide) r2;have t7':=gz_types h.g7 h.g8 (by decide);have hm:x∈xs:=by rw[hx];exact List.getElem_mem hi'
 have ha:=hF.oil x hm;obtain⟨Y9,y9⟩:=h.g9.own;obtain⟨Y10,y10⟩:=h.g10.own;exact⟨h1,h2,h.g7.off r2 t7'.1 t7'.2,h.g8.push ht h.sp.1.size r1 r2 r3,h.g9.off r2 h.a89.symm (gz_apart h.g8 ha.2.1 (hF.small hm (by simp[WI.ls]))),h.g10.off r2 h.a80.symm (gz_apart h.g8 ha.2.2 (hF.small hm (by simp[WI.ls]))),apart_push h.a89 y9 r3,apart_push h.a80 y10 r3,h.a90⟩
theorem GrJ.push9 {w W W':World} {lo hi b i:Nat} {vv t7 t8 t9 t10 t':Value} {xs:List WI} {x:WI} {k7 k8 k9 k10:Nat} {M O I L X us:List Value} (h:GrJ w lo hi b vv xs i x W t7 t8 t9 t10 k7 k8 k9 k10 M O I L) (hF:Fx w lo hi xs) (hi':i<xs.length) (hx:x=xs[i])
  (ht:W.ownsRow lo 9 1 t9 (x.r.mls.length+k9) (O++X)) (r1:W'.ownsRow lo 9 1 t' (x.r.mls.length+k9+1) (O++X++us)) (r2:W.grownBy W' t9.ownBlock) (r3:SameBlk t9 t'∨(t'.ownBlock=some (W.heap.size+1)∧W.grownBy W' none)):
  GrJ w lo hi b vv xs i x W' t7 t8 t' t10 k7 k8 (k9+1) k10 M O I L:=by
 obtain⟨h1,h2⟩:=GrJ.put h.oth h.sp hF hi' hx (by simp[WI.ls]) h.g9 (by decide) r2;have t7':=gz_types h.g7 h.g9 (by decide);have hm:x∈xs:=by rw[hx];exact List.getElem_mem hi'
 have ha:=hF.oil x hm;obtain⟨Y8,y8⟩:=h.g8.own;obtain⟨Y10,y10⟩:=h.g10.own;exact⟨h1,h2,h.g7.off r2 t7'.1 t7'.2,h.g8.off r2 h.a89 (gz_apart h.g9 ha.2.1.symm (hF.small hm (by simp[WI.ls]))),h.g9.push ht h.sp.1.size r1 r2 r3,h.g10.off r2 h.a90.symm (gz_apart h.g9 ha.1.symm (hF.small hm (by simp[WI.ls]))),(apart_push h.a89.symm y8 r3).symm,h.a80,apart_push h.a90 y10 r3⟩
theorem GrJ.push10 {w W W':World} {lo hi b i:Nat} {vv t7 t8 t9 t10 t':Value} {xs:List WI} {x:WI} {k7 k8 k9 k10:Nat} {M O I L X us:List Value} (h:GrJ w lo hi b vv xs i x W t7 t8 t9 t10 k7 k8 k9 k10 M O I L) (hF:Fx w lo hi xs) (hi':i<xs.length) (hx:x=xs[i])
  (ht:W.ownsRow lo 9 1 t10 (x.r.inc.length+k10) (I++X)) (r1:W'.ownsRow lo 9 1 t' (x.r.inc.length+k10+1) (I++X++us)) (r2:W.grownBy W' t10.ownBlock) (r3:SameBlk t10 t'∨(t'.ownBlock=some (W.heap.size+1)∧W.grownBy W' none)):
  GrJ w lo hi b vv xs i x W' t7 t8 t9 t' k7 k8 k9 (k10+1) M O I L:=by
 obtain⟨h1,h2⟩:=GrJ.put h.oth h.sp hF hi' hx (by simp[WI.ls]) h.g10 (by decide) r2;have t7':=gz_types h.g7 h.g10 (by decide);have hm:x∈xs:=by rw[hx];exact List.getElem_mem hi'
 have ha:=hF.oil x hm;obtain⟨Y8,y8⟩:=h.g8.own;obtain⟨Y9,y9⟩:=h.g9.own;exact⟨h1,h2,h.g7.off r2 t7'.1 t7'.2,h.g8.off r2 h.a80 (gz_apart h.g10 ha.2.2.symm (hF.small hm (by simp[WI.ls]))),h.g9.off r2 h.a90 (gz_apart h.g10 ha.1 (hF.small hm (by simp[WI.ls]))),h.g10.push ht h.sp.1.size r1 r2 r3,h.a89,(apart_push h.a80.symm y8 r3).symm,(apart_push h.a90.symm y9 r3).symm⟩
theorem own_at0 {W:World} {b n sz:Nat} {e:TypeId} {v:Value} {xs:List Value} (h:W.ownsRow b e sz v n xs): ∃ao c,v= .slice ao n c∧(0<n→ ∃g,ao=some ⟨g,0,none⟩):=by
 rcases own_cases h with⟨rfl,rfl⟩|⟨g,c,rfl,_⟩
 ·exact⟨_,_,rfl,fun h=>absurd h (Nat.lt_irrefl _)⟩
 ·exact⟨_,_,rfl,fun _=>⟨g,rfl⟩⟩
def pen (z k:Nat) (ms:List PM):List Value:=(List.replicate k z).flatMap mkC++(ms.drop k).flatMap matC
theorem pen_zero (z:Nat) (ms:List PM):pen z 0 ms=ms.flatMap matC:=by simp[pen]
theorem pen_all (z:Nat) (ms:List PM):pen z ms.length ms=(List.replicate ms.length z).flatMap mkC:=by simp[pen]
theorem mkC_len (z k:Nat):((List.replicate k z).flatMap mkC).length=k*3:=by
 induction k with
 |zero=>rfl
 |succ k ih=>rw[List.replicate_succ,List.flatMap_cons,List.length_append,ih];simp[mkC];omega
theorem pen_step {lo g n c z k : Nat} {W : World} {ms : List PM} (h : W.ownsRow lo 38 3 (.slice (some ⟨g, 0, none⟩) n c) n (pen z k ms)) (hk : k < ms.length) :
    (((W.setCell ⟨g, k * 3, none⟩ (.string ⟨#[109, 97, 114, 107, 101, 100]⟩)).setCell ⟨g, k * 3 + 1, none⟩ (.int .i64 (z : Int))).setCell ⟨g, k * 3 + 2, none⟩ (.string ⟨#[]⟩)).ownsRow lo 38 3 (.slice (some ⟨g, 0, none⟩) n c) n (pen z (k + 1) ms) ∧
      W.grownBy (((W.setCell ⟨g,k*3,none⟩ (.string ⟨#[109,97,114,107,101,100]⟩)).setCell ⟨g,k*3+1,none⟩ (.int .i64 (z:Int))).setCell ⟨g,k*3+2,none⟩ (.string ⟨#[]⟩)) (some g):=by
  have e : pen z k ms = (List.replicate k z).flatMap mkC ++ [.string ms[k].name, .int .i64 ms[k].op, .string ms[k].value] ++ (ms.drop (k + 1)).flatMap matC := by
    unfold pen
    rw[List.drop_eq_getElem_cons hk,List.flatMap_cons,List.append_assoc]
    rfl
  have e2 : pen z (k + 1) ms = (List.replicate k z).flatMap mkC ++ [.string ⟨#[109, 97, 114, 107, 101, 100]⟩, .int .i64 (z : Int), .string ⟨#[]⟩] ++ (ms.drop (k + 1)).flatMap matC := by
    unfold pen
    rw[List.replicate_succ',List.flatMap_append]
    rfl
  rw[e]at h
  rw[e2]
  exact own_store3 h (mkC_len z k)
theorem pen_len {z k:Nat} {ms:List PM} (h:k≤ms.length):(pen z k ms).length=ms.length*3:=by
 unfold pen;have: ∀l:List PM,(l.flatMap matC).length=l.length*3:=fun l=>by
  induction l with
  |nil=>rfl
  |cons a l ih=>rw[List.flatMap_cons,List.length_append,ih,List.length_cons];simp[matC];omega
 rw[List.length_append,mkC_len,this,List.length_drop];omega
theorem wi_eq {xs:List WI} {j:Nat} (h:j<xs.length) {x:WI} (e:x=xs[j]):x∈xs:=by rw[e];exact List.getElem_mem h
theorem SpJ.st {w W:World} {lo hi b i:Nat} {vv:Value} {xs:List WI} {x:WI} (h:SpJ lo b vv xs i W) (hs:Spare lo hi w W) (hi':i<xs.length) (hx:x=xs[i]):
  St w lo hi b vv xs i i x W (x.r.ms.flatMap matC) (x.r.mls.flatMap strC) (x.r.inc.flatMap strC) (x.r.labels.flatMap strC):=by
 subst hx;have:=(h.2 i hi').2 (Nat.le_refl _);exact⟨h.oth i,⟨this.m,this.o,this.i,this.l⟩,hs⟩
def mks (n m:Nat):List Value:=List.replicate n (.string (markS m))
theorem St.marks {w W:World} {lo hi b i N:Nat} {vv:Value} {xs:List WI} {x:WI} (h:St w lo hi b vv xs i N x W ((List.replicate x.r.ms.length (i*4+100)).flatMap mkC) (mks x.r.mls.length (i*4+2)) (mks x.r.inc.length (i*4+3)) (mks x.r.labels.length (i*4+1))):Mk lo W i x:=⟨h.r.m,h.r.o,h.r.i,h.r.l⟩
theorem SpJ.st2 {w W:World} {lo hi b i:Nat} {vv:Value} {xs:List WI} {x:WI} (h:SpJ lo b vv xs xs.length W) (hs:Spare lo hi w W) (hi':i<xs.length) (hx:x=xs[i]):
  St w lo hi b vv xs i xs.length x W ((List.replicate x.r.ms.length (i*4+100)).flatMap mkC) (mks x.r.mls.length (i*4+2)) (mks x.r.inc.length (i*4+3)) (mks x.r.labels.length (i*4+1)):=by
 subst hx;have:=(h.2 i hi').1 hi';exact⟨h.oth i,⟨this.m,this.o,this.i,this.l⟩,hs⟩
theorem GrJ.spj {w W:World} {lo hi b i:Nat} {vv t7 t8 t9 t10:Value} {xs:List WI} {x:WI} {k7 k8 k9 k10:Nat} (h:GrJ w lo hi b vv xs i x W t7 t8 t9 t10 k7 k8 k9 k10 ((List.replicate x.r.ms.length (i*4+100)).flatMap mkC) (mks x.r.mls.length (i*4+2)) (mks x.r.inc.length (i*4+3)) (mks x.r.labels.length (i*4+1)))
  (hi':i<xs.length) (hx:x=xs[i]):SpJ lo b vv xs xs.length W:=by
 subst hx;exact h.oth.all hi' ⟨h.g7.base,h.g9.base,h.g10.base,h.g8.base⟩
theorem spoil_is {lo b hi:Nat} {w:World} {vv:Value} {xs:List WI} (h0:SpJ lo b vv xs 0 w) (hF:Fx w lo hi xs) (hn:xs.length≤4294967296):
  Calls Tryz.prog 25 #[vv] w fun e w'=>e= .returned (.bool true)∧Spare lo hi w w':=by
 obtain⟨ao,c,rfl,hao⟩:=own_at0 h0.1;have HAO:=Lib.hid hao;have H0:=Lib.hid h0;have HF:=Lib.hid hF;clear h0 hF hao;go_enter Tryz.func25,Tryz.ntmps25;go_wp2_with fail;go_loopw [3] (fun t3 W=> ∃j:Nat,t3= .int .i64 (j:Int)∧Hid (j≤xs.length)∧Hid (SpJ lo b (.slice ao xs.length c) xs j W∧Spare lo hi w W)) (fun t3 _=>xs.length-(intOf t3).toNat)
 case atStart=>exact⟨0,rfl,Lib.hid (Nat.zero_le _),Lib.hid ⟨H0.out,Spare.refl _ _ _⟩⟩
 case round=>
  obtain⟨j,rfl,hj,hs⟩:=hrel;by_cases hlt:j<xs.length
  ·have p1:((j:Int)<(xs.length:Int))=True:=eq_true (by omega);obtain⟨x,hx⟩: ∃x,x=xs[j]:=⟨_,rfl⟩;have hst:=SpJ.st hs.out.1 hs.out.2 hlt hx;have hlen:=HF.out.len x (wi_eq hlt hx);obtain⟨g,rfl⟩:=HAO.out (by omega);have HX:=Lib.hid hx;obtain⟨am,cm,hvm,ham⟩:=own_at0 hst.r.m;have HVM:=Lib.hid hvm;have HAM:=Lib.hid ham;have hnm:x.r.ms.length≤1099511627776:=hlen.1;have HLEN:=Lib.hid hlen;have HRC:Hid (∀W M O I L,St w lo hi b (.slice (some ⟨g,0,none⟩) xs.length c) xs j j x W M O I L→W.cell? ⟨g,j*17+4,none⟩=some (.slice am x.r.ms.length cm)∧W.cell? ⟨g,j*17+12,none⟩=some x.o∧W.cell? ⟨g,j*17+14,none⟩=some x.i∧W.cell? ⟨g,j*17+16,none⟩=some x.l):=Lib.hid fun W M O I L h=>by
    have:=row_cells h.oth.1 j hlt;rw[←HX.out,HVM.out]at this;exact this
   have HST:=Lib.hid hst;obtain⟨c4,c12,c14,c16⟩:=HRC.out _ _ _ _ _ hst;clear hst hs hx hvm ham hlen;go_wp2_with fail;go_loopw [5] (fun t5 W=> ∃k:Nat,t5= .int .i64 (k:Int)∧Hid (k≤x.r.ms.length)∧Hid (St w lo hi b (.slice (some ⟨g,0,none⟩) xs.length c) xs j j x W (pen (j*4+100) k x.r.ms) (x.r.mls.flatMap strC) (x.r.inc.flatMap strC) (x.r.labels.flatMap strC))) (fun t5 _=>x.r.ms.length-(intOf t5).toNat)
   case atStart=>exact⟨0,rfl,Lib.hid (Nat.zero_le _),by rw[pen_zero];exact HST⟩
   case round=>
    obtain⟨k,rfl,hk,hsk⟩:=hrel;obtain⟨d4,d12,d14,d16⟩:=HRC.out _ _ _ _ _ hsk.out;by_cases hkl:k<x.r.ms.length
    ·have p2:((k:Int)<(x.r.ms.length:Int))=True:=eq_true (by omega);obtain⟨gm,rfl⟩:=HAM.out (by omega);have hom:=hsk.out.r.m;rw[HVM.out]at hom;have fm: ∀i,wr.frozen? ⟨gm,i,none⟩=false:=fun i=>hom.frozenAt i
     have hcm: ∀i,i<x.r.ms.length*3→ ∃v,wr.cell? ⟨gm,i,none⟩=some v:=fun i hi=>by
      rw[hom.cellAt i (by have:=pen_len (z:=j*4+100) hk.out;omega)];exact⟨_,List.getElem?_eq_getElem (by have:=pen_len (z:=j*4+100) hk.out;omega)⟩
     obtain⟨v0,k0⟩:=hcm (k*3) (by omega);obtain⟨v1,k1⟩:=hcm (k*3+1) (by omega);obtain⟨v2,k2⟩:=hcm (k*3+2) (by omega);obtain⟨r1,r2⟩:=pen_step hom hkl;have hN:=hsk.out.m HF.out hlt HX.out (by rw[HVM.out];exact r1) (by rw[HVM.out];exact r2);rw[show ((j*4+100:Nat):Int)=(j:Int)*4+100 by omega]at hN;have HN:=Lib.hid hN;clear hom hcm r1 r2 hN hsk;go_wp2_with fail;go_roundw
     case rel=>exact⟨k+1,by go_num,Lib.hid hkl,HN⟩
     case measure=>simp[intOf];omega
    ·have p2:((k:Int)<(x.r.ms.length:Int))=False:=eq_false (by omega);have hke:k=x.r.ms.length:=by have:=hk.out;omega
     subst hke;have hs1:=hsk.out;rw[pen_all]at hs1;have HWR:Hid (∀(m:Nat) (M:Int),M=m→m<1099511627776→ ∀W v n ys,W.ownsRow lo 9 1 v n ys→ys.length=n→n≤1099511627776→Calls Tryz.prog 70 #[v,.int .i64 M] W fun e w'=>(∃r,e= .returned r)∧w'.ownsRow lo 9 1 v n (mks n m)∧W.grownBy w' v.ownBlock):=Lib.hid fun m M hM hm W v n ys h1 h2 h3=>by
      subst hM;exact write_is h1 h2 h3 hm
     have HS1:=Lib.hid hs1;clear hs1 hsk;go_wp2_with fail;refine(HWR.out (j*4+1) _ (by omega) (by omega) _ _ _ _ HS1.out.r.l (by simpa using HS1.out.r.l.1) HLEN.out.2.2.2).mono ?_;rintro e W2 ⟨⟨r2,rfl⟩,ho2,hg2⟩;have HS2:=Lib.hid (HS1.out.l HF.out hlt HX.out ho2 hg2);obtain⟨e4,e12,e14,e16⟩:=HRC.out _ _ _ _ _ HS2.out;clear ho2 hg2;go_wp2_with fail;refine(HWR.out (j*4+2) _ (by omega) (by omega) _ _ _ _ HS2.out.r.o (by simpa using HS2.out.r.o.1) HLEN.out.2.1).mono ?_;rintro e W3 ⟨⟨r3,rfl⟩,ho3,hg3⟩;have HS3:=Lib.hid (HS2.out.o HF.out hlt HX.out ho3 hg3);obtain⟨f4,f12,f14,f16⟩:=HRC.out _ _ _ _ _ HS3.out;clear ho3 hg3;go_wp2_with fail;refine(HWR.out (j*4+3) _ (by omega) (by omega) _ _ _ _ HS3.out.r.i (by simpa using HS3.out.r.i.1) HLEN.out.2.2.1).mono ?_;rintro e W4 ⟨⟨r4,rfl⟩,ho4,hg4⟩;have hs4:=HS3.out.i HF.out hlt HX.out ho4 hg4;have HS4:=Lib.hid hs4;have HN:Hid (SpJ lo b (.slice (some ⟨g,0,none⟩) xs.length c) xs (j+1) W4∧Spare lo hi w W4):=Lib.hid ⟨hs4.oth.step hlt (by rw[←HX.out];exact hs4.marks),hs4.sp⟩;clear ho4 hg4 hs4;go_wp2_with fail;go_roundw
     case rel=>exact⟨j+1,by go_num,Lib.hid hlt,HN⟩
     case measure=>simp[intOf];omega
  ·have p1:((j:Int)<(xs.length:Int))=False:=eq_false (by omega);have hje:j=xs.length:=by have:=hj.out;omega
   subst hje;have HMK:Hid (∀W,SpJ lo b (.slice ao xs.length c) xs xs.length W→Calls Tryz.prog 71 #[.slice ao xs.length c] W (BoolPost W true)):=Lib.hid fun W h=>marked_is h.1 (fun j hj=>(h.2 j hj).1 hj) hn HF.out.len
   go_wp2_with fail;refine(HMK.out _ hs.out.1).mono ?_;rintro e W1 ⟨rfl,hb1⟩;have HS1:Hid (SpJ lo b (.slice ao xs.length c) xs xs.length W1∧Spare lo hi w W1):=Lib.hid ⟨hs.out.1.below hb1,hs.out.2.below HF.out.lo hb1⟩;clear hb1 hs;go_wp2_with fail;go_loopw [6] (fun t6 W=> ∃j:Nat,t6= .int .i64 (j:Int)∧Hid (j≤xs.length)∧Hid (SpJ lo b (.slice ao xs.length c) xs xs.length W∧Spare lo hi w W)) (fun t6 _=>xs.length-(intOf t6).toNat)
   case atStart=>exact⟨0,rfl,Lib.hid (Nat.zero_le _),HS1⟩
   case round=>
    obtain⟨j,rfl,hj,hs⟩:=hrel;by_cases hlt:j<xs.length
    ·have p1:((j:Int)<(xs.length:Int))=True:=eq_true (by omega);obtain⟨x,hx⟩: ∃x,x=xs[j]:=⟨_,rfl⟩;have hst:=SpJ.st2 hs.out.1 hs.out.2 hlt hx;have hlen:=HF.out.len x (wi_eq hlt hx);obtain⟨g,rfl⟩:=HAO.out (by omega);have HX:=Lib.hid hx;have HLEN:=Lib.hid hlen;obtain⟨c4,c12,c14,c16⟩:=row_cells hst.oth.1 j hlt;rw[←hx]at c4 c12 c14 c16;have HG:=Lib.hid (hst.gr HF.out hlt hx);obtain⟨a7,n7,k7,h7⟩:=own_sl hst.r.m;obtain⟨a8,n8,k8,h8⟩:=own_sl hst.r.l;obtain⟨a9,n9,k9,h9⟩:=own_sl hst.r.o;obtain⟨a10,n10,k10,h10⟩:=own_sl hst.r.i;rw[h7]at c4;rw[h8]at c16;rw[h9]at c12;rw[h10]at c14;have HV:=Lib.hid (And.intro h7 (And.intro h8 (And.intro h9 h10)));clear hst hs hx hlen h7 h8 h9 h10;go_wp2_with fail;go_quiet (fail);rename_i nq;have HG2:Hid (GrJ w lo hi b (.slice (some ⟨g,0,none⟩) xs.length c) xs j x (wr.drewN nq) (.slice a7 n7 k7) (.slice a8 n8 k8) (.slice a9 n9 k9) (.slice a10 n10 k10) 0 0 0 0 ((List.replicate x.r.ms.length (j*4+100)).flatMap mkC) (mks x.r.mls.length (j*4+2)) (mks x.r.inc.length (j*4+3)) (mks x.r.labels.length (j*4+1))):=Lib.hid (by
      have h:=HG.out.below HF.out.lo (Go.below_drewN (Below.refl _ wr) nq);rw[←HV.out.1,←HV.out.2.1,←HV.out.2.2.1,←HV.out.2.2.2];exact h)
     generalize wr.drewN nq=w2 at*
     clear c4 c12 c14 c16 HG;go_wp2_with fail;go_loopw [7,8,9,10,11] (fun t7 t8 t9 t10 t11 W=> ∃k:Nat,t11= .int .i64 (k:Int)∧Hid (k≤12)∧Hid (GrJ w lo hi b (.slice (some ⟨g,0,none⟩) xs.length c) xs j x W t7 t8 t9 t10 k k k k ((List.replicate x.r.ms.length (j*4+100)).flatMap mkC) (mks x.r.mls.length (j*4+2)) (mks x.r.inc.length (j*4+3)) (mks x.r.labels.length (j*4+1)))) (fun _ _ _ _ t11 _=>12-(intOf t11).toNat)
     case atStart=>exact⟨0,rfl,Lib.hid (Nat.zero_le _),HG2⟩
     case round=>
      obtain⟨k,rfl,hk,hg⟩:=hrel;by_cases hkl:k<12
      ·have p2:((k:Int)<12)=True:=eq_true (by omega);obtain⟨X7,o7⟩:=hg.out.g7.own;obtain⟨a7,n7,d7,rfl⟩:=own_sl o7;have O7:=Lib.hid o7;clear o7;have HSZ:Hid (lo≤wr.heap.size):=Lib.hid (Nat.le_trans HF.out.lo hg.out.sp.1.size);go_wp2_with (at_builtin;refine wpList_push2 rfl (.tmp 101) (.tmp 103) 32 rfl lo 38 _ 3 40 info_mat Tryz.underlying32 rfl (by omega) _ _ _ rfl O7.out [.string ⟨#[103,114,111,119,110]⟩,.int .i64 0,.string ⟨#[]⟩] rfl (by rfl) (by intro u hu;simp at hu;rcases hu with rfl|rfl|rfl<;>rfl) (by have:=HLEN.out.1;unfold maxLen;omega) (by have:=HLEN.out.1;omega) HSZ.out ?_);intro t7' W7 r1 r2 r3;rw[←List.append_assoc]at r1;have HG7:=Lib.hid (hg.out.push7 HF.out hlt HX.out O7.out r1 r2 r3);clear r1 r2 r3 hg;obtain⟨X8,o8⟩:=HG7.out.g8.own;obtain⟨a8,n8,d8,rfl⟩:=own_sl o8;obtain⟨_,o7⟩:=HG7.out.g7.own;obtain⟨_,_,_,rfl⟩:=own_sl o7;have O8:=Lib.hid o8;clear o7 o8;have HSZ7:Hid (lo≤W7.heap.size):=Lib.hid (Nat.le_trans HF.out.lo HG7.out.sp.1.size);go_wp2_with (at_builtin;refine wpList_push2 rfl (.tmp 105) (.tmp 106) 22 rfl lo 9 _ 1 16 info_str Tryz.underlying22 rfl (by omega) _ _ _ rfl O8.out [.string ⟨#[103,114,111,119,110]⟩] rfl (by rfl) (by intro u hu;simp at hu;rcases hu with rfl<;>rfl) (by have:=HLEN.out.2.2.2;unfold maxLen;omega) (by have:=HLEN.out.2.2.2;omega) HSZ7.out ?_);intro t8' W8 r1 r2 r3;rw[←List.append_assoc]at r1;have HG8:=Lib.hid (HG7.out.push8 HF.out hlt HX.out O8.out r1 r2 r3);clear r1 r2 r3 HG7;obtain⟨X9,o9⟩:=HG8.out.g9.own;obtain⟨a9,n9,d9,rfl⟩:=own_sl o9;obtain⟨_,o7⟩:=HG8.out.g8.own;obtain⟨_,_,_,rfl⟩:=own_sl o7;have O9:=Lib.hid o9;clear o7 o9;have HSZ8:Hid (lo≤W8.heap.size):=Lib.hid (Nat.le_trans HF.out.lo HG8.out.sp.1.size);go_wp2_with (at_builtin;refine wpList_push2 rfl (.tmp 108) (.tmp 109) 22 rfl lo 9 _ 1 16 info_str Tryz.underlying22 rfl (by omega) _ _ _ rfl O9.out [.string ⟨#[103,114,111,119,110]⟩] rfl (by rfl) (by intro u hu;simp at hu;rcases hu with rfl<;>rfl) (by have:=HLEN.out.2.1;unfold maxLen;omega) (by have:=HLEN.out.2.1;omega) HSZ8.out ?_);intro t9' W9 r1 r2 r3;rw[←List.append_assoc]at r1;have HG9:=Lib.hid (HG8.out.push9 HF.out hlt HX.out O9.out r1 r2 r3);clear r1 r2 r3 HG8;obtain⟨X10,o10⟩:=HG9.out.g10.own;obtain⟨a10,n10,d10,rfl⟩:=own_sl o10;obtain⟨_,o7⟩:=HG9.out.g9.own;obtain⟨_,_,_,rfl⟩:=own_sl o7;have O10:=Lib.hid o10;clear o7 o10;have HSZ9:Hid (lo≤W9.heap.size):=Lib.hid (Nat.le_trans HF.out.lo HG9.out.sp.1.size);go_wp2_with (at_builtin;refine wpList_push2 rfl (.tmp 111) (.tmp 112) 22 rfl lo 9 _ 1 16 info_str Tryz.underlying22 rfl (by omega) _ _ _ rfl O10.out [.string ⟨#[103,114,111,119,110]⟩] rfl (by rfl) (by intro u hu;simp at hu;rcases hu with rfl<;>rfl) (by have:=HLEN.out.2.2.1;unfold maxLen;omega) (by have:=HLEN.out.2.2.1;omega) HSZ9.out ?_);intro t10' W10 r1 r2 r3;rw[←List.append_assoc]at r1;have HG10:=Lib.hid (HG9.out.push10 HF.out hlt HX.out O10.out r1 r2 r3);clear r1 r2 r3 HG9;obtain⟨_,o7⟩:=HG10.out.g10.own;obtain⟨_,_,_,rfl⟩:=own_sl o7;clear o7;go_wp2_with fail;go_roundw
       case rel=>exact⟨k+1,by go_num,Lib.hid hkl,HG10⟩
       case measure=>simp[intOf];omega
      ·have p2:((k:Int)<12)=False:=eq_false (by omega);have HN:Hid (SpJ lo b (.slice (some ⟨g,0,none⟩) xs.length c) xs xs.length wr∧Spare lo hi w wr):=Lib.hid ⟨hg.out.spj hlt HX.out,hg.out.sp⟩;go_wp2_with fail;go_roundw
       case rel=>exact⟨j+1,by go_num,Lib.hid hlt,HN⟩
       case measure=>simp[intOf];omega
    ·have p1:((j:Int)<(xs.length:Int))=False:=eq_false (by omega);go_wp2_with fail;refine(HMK.out _ hs.out.1).mono ?_;rintro e W2 ⟨rfl,hb2⟩;have HS2:Hid (Spare lo hi w W2):=Lib.hid (hs.out.2.below HF.out.lo hb2);clear hb2 hs;go_wp2_with fail;go_ret;exact⟨rfl,HS2.out⟩
end Go.Proofs.YtibcjfjacielbaaGreatDoor
