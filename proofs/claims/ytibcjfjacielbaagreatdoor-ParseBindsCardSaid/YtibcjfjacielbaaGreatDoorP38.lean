import Derived.Test.YtibcjfjacielbaaGreatDoorP27
import Derived.OwnWalkIn
import Derived.TacticsInMore
import Derived.RegionIn
import Derived.LoopIn
import Derived.RangeFuncNested
import Derived.RangeFuncBound
import Derived.RangeFuncCalls
import Derived.RangeFuncLeaves
/- Part of the proof of YtibcjfjacielbaaGreatDoorCardP: TrL. -/
set_option maxRecDepth 100000
set_option maxHeartbeats 4000000
set_option linter.unusedVariables false
set_option linter.unusedSimpArgs false
namespace Go.Proofs.YtibcjfjacielbaaGreatDoor
open Go.RowKit
def Kept (B:Nat) (W W':World):Prop:=Below B W W'∧KeepT 24 W W'
theorem Kept.refl (B:Nat) (W:World):Kept B W W:=⟨Below.refl _ _,KeepT.refl _ _⟩
theorem Kept.trans {B:Nat} {U V W:World} (h:Kept B U V) (k:Kept B V W):Kept B U W:=⟨h.1.trans k.1,h.2.trans k.2⟩
theorem Kept.of_below {B:Nat} {W W':World} (hb:B≤W.heap.size) (h:Below W.heap.size W W'):Kept B W W':=⟨h.mono hb,KeepT.of_below h⟩
def VisPost (B:Nat) (J Jx:List (Nat×PR)→World→Prop) (pre:List (Nat×PR)) (x:Nat×PR) (W:World) (e:Ending) (W':World):Prop:=
 (e= .returned (.bool true)∧J (pre++[x]) W'∧Kept B W W')∨(e= .returned (.bool false)∧Jx (pre++[x]) W')
def WalkPost (B:Nat) (J Jx:List (Nat×PR)→World→Prop) (pre L:List (Nat×PR)) (W:World) (e:Ending) (W':World):Prop:=
 (e= .returned (.bool true)∧J (pre++L) W'∧Kept B W W')∨(e= .returned (.bool false)∧(∃q,q<+:L∧q≠[]∧Jx (pre++q) W'))
def Visits (b:Nat) (w0:World) (fv:Nat) (lb:Array Value) (J Jx:List (Nat×PR)→World→Prop) (Ok:List (Nat×PR)→Prop) (R:PR→Prop):Prop:=
 ∀(n d:Nat) (pre:List (Nat×PR)) (v:Value) (r:PR) (ks:List Value) (W:World),R r→NodeAt b W v r ks→J pre W→Below w0.heap.size w0 W→Ok (pre++[(d,r)])→d≤1099511627776→
  CallsIn Fence.wide n Tryz.prog fv (#[.int .i64 (d:Int),v]++lb) W (VisPost w0.heap.size J Jx pre (d,r) W)
theorem flat_range_le {α:Type} (segs:Nat→List α) {i n:Nat} (h:i<n):((List.range i).flatMap segs).length+(segs i).length≤((List.range n).flatMap segs).length:=by
 induction n with
 |zero=>omega
 |succ n ih=>
  rw[List.range_succ,List.flatMap_append,List.length_append,List.flatMap_cons,List.flatMap_nil,List.append_nil];by_cases e:i=n
  ·subst e;omega
  ·have:=ih (by omega);omega
theorem flat_range_ge {α:Type} (segs:Nat→List α) {n:Nat} (h: ∀i,i<n→1≤(segs i).length):n≤((List.range n).flatMap segs).length:=by
 induction n with
 |zero=>exact Nat.zero_le _
 |succ n ih=>
  rw[List.range_succ,List.flatMap_append,List.length_append,List.flatMap_cons,List.flatMap_nil,List.append_nil];have h1:=ih fun i hi=>h i (by omega)
  have h2:=h n (by omega);omega
theorem TreeAt.one {b:Nat} {w:World} {d:Nat} {v:Value} {L:List (Nat×PR)} (h:TreeAt b w d v L):1≤L.length:=by
 cases h with
 |mk=>simp
theorem flat_range_succ {α:Type} (segs:Nat→List α) (i:Nat):(List.range (i+1)).flatMap segs=(List.range i).flatMap segs++segs i:=by
 rw[List.range_succ,List.flatMap_append,List.flatMap_cons,List.flatMap_nil,List.append_nil]
theorem flat_range_pre {α : Type} (segs : Nat → List α) {i n : Nat} (h : i ≤ n) : (List.range i).flatMap segs <+: (List.range n).flatMap segs := by
  induction n with
  | zero => have : i = 0 := by omega
            subst this;exact List.prefix_refl _
  | succ n ih =>
    by_cases e:i=n+1
    · subst e; exact List.prefix_refl _
    · rw [flat_range_succ]; exact (ih (by omega)).trans (List.prefix_append _ _)
theorem flat_range_cut {α:Type} (segs:Nat→List α) {i n:Nat} {q:List α} (hi:i<n) (hq:q<+:segs i):(List.range i).flatMap segs++q<+:(List.range n).flatMap segs:=by
 refine List.IsPrefix.trans ?_ (flat_range_pre segs (show i+1≤n from hi));rw[flat_range_succ];exact(List.prefix_append_right_inj _).2 hq
theorem walk_cut {B:Nat} {J Jx:List (Nat×PR)→World→Prop} {pre q:List (Nat×PR)} {x:Nat×PR} {segs:Nat→List (Nat×PR)} {i n:Nat} {W W':World} (hi:i<n) (hq:q<+:segs i) (hn:q≠[]) (hx:Jx ((pre++[x]++(List.range i).flatMap segs)++q) W'):
  WalkPost B J Jx pre (x::(List.range n).flatMap segs) W (.returned (.bool false)) W':=by
 refine .inr ⟨rfl,⟨x::((List.range i).flatMap segs++q),?_,by simp,by simpa [List.append_assoc]using hx⟩⟩;exact List.cons_prefix_cons.2 ⟨rfl,flat_range_cut segs hi hq⟩
theorem tree_walk {b:Nat} {w0:World} (fv:Nat) (lb:Array Value) (eg: ∀args w,(callFunc fv args).run Tryz.prog w= .ok (.enter fv args) w) (Ok:List (Nat×PR)→Prop) (J Jx:List (Nat×PR)→World→Prop)
  (hJ: ∀s A B,J s A→Below A.heap.size A B→J s B) {R:PR→Prop} (hV:Visits b w0 fv lb J Jx Ok R) {d:Nat} {v:Value} {L:List (Nat×PR)} (ht:TreeAt b w0 d v L):
  (∀x∈L,R x.2)→ ∀(n:Nat) (pre:List (Nat×PR)) (W:World),Below w0.heap.size w0 W→J pre W→(∀q,q<+:L→q≠[]→Ok (pre++q))→d+L.length≤1099511627776→
   CallsIn Fence.wide n Tryz.prog 57 #[v,.int .i64 (d:Int),.func (.func fv) #[] lb] W (WalkPost w0.heap.size J Jx pre L W):=by
 induction ht with
 |mk d v r ks segs h0 hk ih=>
  intro hR n pre W hW hj hN hdd;have hRr:=hR (d,r) (by simp);replace ih:=fun i (hi:i<ks.length)=>ih i hi (fun x hx=>hR x (List.mem_cons_of_mem _ (List.mem_flatMap.2 ⟨i,List.mem_range.2 hi,hx⟩)))
  obtain⟨tt,g,hv⟩:=h0.iface;have hks:ks.length≤1099511627776:=by
   have:=flat_range_ge segs fun i hi=>(hk i hi).one
   simp only[List.length_cons]at hdd;omega
  have H0:=Lib.hid h0;have HV:=Lib.hid hV;have HJ:=Lib.hid hJ;have IH:=Lib.hid ih;have HW:=Lib.hid hW;have Hj:=Lib.hid hj;subst hv;clear h0 hV hJ ih hW hj hk hR;refine callsIn_of_wp Tryz.func57 rfl trivial ?_ rfl;simp only[Tryz.ntmps57,List.size_toArray,List.length_cons,List.length_nil,Nat.reduceAdd,Nat.reduceSub,Array.replicate_succ,Array.replicate_zero,List.push_toArray,List.append_toArray,List.nil_append,List.cons_append]
  gi_wp2_with fail
  refine⟨trivial,fun h=>(by cases h),?_⟩;refine(HV.out (n-1) d pre _ r ks W hRr (H0.out.below HW.out) Hj.out HW.out ?_ ?_).mono ?_
  ·exact hN [(d,r)] (List.cons_prefix_cons.2 ⟨rfl,List.nil_prefix⟩) (by simp)
  ·simp only[List.length_cons]at hdd;omega
  rintro e W1 (⟨rfl,hj1,hb1⟩|⟨rfl,hx1⟩)
  ·have HJ1:=Lib.hid hj1;have HB1:=Lib.hid hb1;clear hj1 hb1 Hj
   gi_wp2_with fail
   refine⟨trivial,fun h=>(by cases h),?_⟩;refine(callsIn_wide.2 (tree_kidsOf H0.out (HW.out.trans HB1.out.1))).mono ?_;rintro e W2 ⟨s,rfl,hs,hb2,hkp⟩;obtain⟨ao,c,rfl,hcells⟩:=hs;have HS:=Lib.hid hcells;have HB2:Hid (Kept w0.heap.size W W2):=Lib.hid (HB1.out.trans (.of_below (Nat.le_trans HW.out.size HB1.out.1.size) hb2));have HKP:=Lib.hid hkp;have HJ2:=Lib.hid (HJ.out _ _ _ HJ1.out hb2);have HL:Hid ((∀q,q<+:(List.range ks.length).flatMap segs→Ok (pre++[(d,r)]++q))∧d+1+((List.range ks.length).flatMap segs).length≤1099511627776):=Lib.hid ⟨fun q hq=>by
    have:=hN ((d,r)::q) (List.cons_prefix_cons.2 ⟨rfl,hq⟩) (by simp);simpa using this,by simp only[List.length_cons]at hdd;omega⟩
   have hd0:(0:Int)≤d:=Int.natCast_nonneg d;have hdu:(d:Int)≤1099511627776:=by simp only[List.length_cons]at hdd;omega
   clear hcells hb2 hkp HJ1 HB1 H0 HV hN hdd
   gi_wp2_with fail
   gi_loopw [19] (fun t19 W3=> ∃i:Nat,Hid (i≤ks.length)∧t19= .int .i64 (i:Int)∧Hid (J (pre++[(d,r)]++(List.range i).flatMap segs) W3)∧Hid (Kept w0.heap.size W W3)∧Hid (Kept w0.heap.size W2 W3)) (fun t19 _=>ks.length-(intOf t19).toNat)
   case atStart=>exact⟨0,Lib.hid (Nat.zero_le _),rfl,by simpa using HJ2,HB2,Lib.hid (Kept.refl _ _)⟩
   case round=>
    obtain⟨i,hi,rfl,hj,hb,hb3⟩:=hrel;by_cases hlt:i<ks.length
    ·have p1:((i:Int)<(ks.length:Int))=True:=eq_true (by omega);obtain⟨gk,ok,rfl,_,hgk,hck⟩:=HS.out i hlt;have hck3:wr.cell? ⟨gk,ok+i,none⟩=some ks[i]:=by
      rcases HKP.out gk ok _ c (by omega) rfl with h|⟨cs,h⟩
      ·exact(hb3.out.1.cell (p:=⟨gk,ok+i,none⟩) h).trans hck
      ·rw[h.cell]at hck;rw[(hb3.out.2 gk cs h).cell,hck]
     clear hck
     gi_wp2_with fail
     refine⟨trivial,fun h=>(by cases h),?_⟩;have hle:=flat_range_le segs hlt;have hIH:=IH.out i hlt (n-1) (pre++[(d,r)]++(List.range i).flatMap segs) wr (HW.out.trans hb.out.1) hj.out (fun q hq _=>by have:=HL.out.1 _ (flat_range_cut segs hlt hq);simpa [List.append_assoc]using this) (by have:=HL.out.2;omega);rw[show (((d+1:Nat)):Int)=(d:Int)+1 by omega]at hIH;refine hIH.mono ?_;clear hIH hle;rintro e W4 (⟨rfl,hj4,hb4⟩|⟨rfl,⟨q,hq,hqn,hx4⟩⟩)
     ·have HJ4:Hid (J (pre++[(d,r)]++(List.range (i+1)).flatMap segs) W4):=Lib.hid (by rw[flat_range_succ,←List.append_assoc];exact hj4);have HB4:=Lib.hid (hb.out.trans hb4);clear hj4;have HB24:=Lib.hid (hb3.out.trans hb4);clear hb4
      gi_wp2_with fail
      go_roundw
      case rel=>exact⟨i+1,Lib.hid hlt,by go_num,HJ4,HB4,HB24⟩
      case measure=>simp[intOf];omega
     ·have HP:=Lib.hid (walk_cut (J:=J) (B:=w0.heap.size) (W:=W) hlt hq hqn hx4);clear hq hqn hx4
      gi_wp2_with fail
      go_ret;exact HP.out
    ·have p1:((i:Int)<(ks.length:Int))=False:=eq_false (by omega);have hie:i=ks.length:=by have:=hi.out;omega
     have HP:Hid (WalkPost w0.heap.size J Jx pre ((d,r)::(List.range ks.length).flatMap segs) W (.returned (.bool true)) wr):=Lib.hid (.inl ⟨rfl,by have:=hj.out;rw[hie]at this;simpa [List.append_assoc]using this,hb.out⟩);clear hie
     gi_wp2_with fail
     go_ret;exact HP.out
  ·have HX1:=Lib.hid hx1;clear hx1 Hj
   gi_wp2_with fail
   go_ret;exact .inr ⟨rfl,⟨[(d,r)],List.cons_prefix_cons.2 ⟨rfl,List.nil_prefix⟩,by simp,HX1.out⟩⟩
end Go.Proofs.YtibcjfjacielbaaGreatDoor
