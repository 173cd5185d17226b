import Derived.Test.YtibcjfjacielbaaGreatDoorP05
import Derived.Lib.DecodeN
import Derived.Lib.Strings
import Derived.Deep.QuietTactic
import Derived.BigQuiet
import Derived.Deep.RegionHeld3
import Derived.StillTailTactics
/- Part of the proof of YtibcjfjacielbaaGreatDoorCardP: TrD. -/
set_option maxRecDepth 100000
set_option maxHeartbeats 4000000
set_option linter.unusedVariables false
set_option linter.unusedSimpArgs false
namespace Go.Proofs.YtibcjfjacielbaaGreatDoor
open Go.RowKit
theorem run_assert_ptr {P:Program} {t e:TypeId} (h:P.underlying t=some (.pointer e)) (hz: ∀w,(zeroValue t).run P w= .ok (.pointer none) w) (d:TypeId) (v:Value) (x:TypeId) (w:World):
  (Instr.typeAssert (.iface d v) x t true).run P w= .ok (.tuple #[if d=t then v else .pointer none,.bool (decide (d=t))]) w:=by
 unfold Instr.typeAssert;simp only[Sem.run_bind,run_underlying h,Result.andThen];by_cases hd:d=t
 ·simp[hd]
 ·simp[hd,hz,Sem.run_bind,Result.andThen]
abbrev AsP (t:TypeId):Prop:= ∀(d:TypeId) (v:Value) (x:TypeId) (w:World),(Instr.typeAssert (.iface d v) x t true).run Tryz.prog w= .ok (.tuple #[if d=t then v else .pointer none,.bool (decide (d=t))]) w
theorem asNumber:AsP 164:=run_assert_ptr Tryz.underlying164 fun _=>by kernel_rfl
theorem asText:AsP 167:=run_assert_ptr Tryz.underlying167 fun _=>by kernel_rfl
theorem asSelector:AsP 93:=run_assert_ptr Tryz.underlying93 fun _=>by kernel_rfl
theorem asRange:AsP 170:=run_assert_ptr Tryz.underlying170 fun _=>by kernel_rfl
theorem asSubquery:AsP 173:=run_assert_ptr Tryz.underlying173 fun _=>by kernel_rfl
theorem asUnary:AsP 176:=run_assert_ptr Tryz.underlying176 fun _=>by kernel_rfl
theorem asBinary:AsP 179:=run_assert_ptr Tryz.underlying179 fun _=>by kernel_rfl
theorem asCall:AsP 183:=run_assert_ptr Tryz.underlying183 fun _=>by kernel_rfl
theorem asAggregate:AsP 186:=run_assert_ptr Tryz.underlying186 fun _=>by kernel_rfl
def eS:ByteArray:=⟨#[]⟩
def zr (k n:Int):PR:=⟨k,n,eS,eS,[],eS,eS,eS,eS,false,false,false,[],0,[],false,[]⟩
def ExpS (b:Nat) (w:World) (v:Value) (ks:List Value):Prop:=
 ∃ao c,v= .slice ao ks.length c∧ ∀j (h:j<ks.length),∃g o,ao=some ⟨g,o,none⟩∧b≤g∧g<w.heap.size∧w.cell? ⟨g,o+j,none⟩=some ks[j]
theorem ExpS.below {b:Nat} {w w':World} {v:Value} {ks:List Value} (h:ExpS b w v ks) (hb:Below w.heap.size w w'):ExpS b w' v ks:=by
 obtain⟨ao,c,h1,h2⟩:=h;refine⟨ao,c,h1,fun j hj=>?_⟩;obtain⟨g,o,a,l,u,x⟩:=h2 j hj;exact⟨g,o,a,l,Nat.lt_of_lt_of_le u hb.size,(hb.cell (p:=⟨g,_,none⟩) u).trans x⟩
inductive NodeAt (b:Nat) (w:World):Value→PR→List Value→Prop
 |number (g:Nat) (hb:b≤g) (hg:g<w.heap.size) (t:ByteArray) (c0:w.cell? ⟨g,0,none⟩=some (.string t)):NodeAt b w (.iface 164 (.pointer (some ⟨g,0,none⟩))) {zr 1 0 with text:=t} []
 |text (g:Nat) (hb:b≤g) (hg:g<w.heap.size) (t:ByteArray) (c0:w.cell? ⟨g,0,none⟩=some (.string t)):NodeAt b w (.iface 167 (.pointer (some ⟨g,0,none⟩))) {zr 2 0 with text:=t} []
 |selector (g:Nat) (hb:b≤g) (hg:g<w.heap.size) (t off tim:ByteArray) (vm:Value) (ms:List PM) (hm:MatS b w vm ms) (c0:w.cell? ⟨g,0,none⟩=some (.string t)) (c1:w.cell? ⟨g,1,none⟩=some (vm)) (c2:w.cell? ⟨g,2,none⟩=some (.string off)) (c3:w.cell? ⟨g,3,none⟩=some (.string tim)):NodeAt b w (.iface 93 (.pointer (some ⟨g,0,none⟩))) {zr 3 0 with text:=t,ms:=ms,off:=off,tim:=tim} []
 |range (g:Nat) (hb:b≤g) (hg:g<w.heap.size) (d:ByteArray) (p:Nat) (c0:w.cell? ⟨g,0,none⟩=some (.pointer (some ⟨p,0,none⟩))) (c1:w.cell? ⟨g,1,none⟩=some (.string d)):NodeAt b w (.iface 170 (.pointer (some ⟨g,0,none⟩))) {zr 4 1 with dur:=d} [.iface 93 (.pointer (some ⟨p,0,none⟩))]
 |subquery (g:Nat) (hb:b≤g) (hg:g<w.heap.size) (d s off tim:ByteArray) (t:TypeId) (x:Value) (c0:w.cell? ⟨g,0,none⟩=some (.iface t x)) (c1:w.cell? ⟨g,1,none⟩=some (.string d)) (c2:w.cell? ⟨g,2,none⟩=some (.string s)) (c3:w.cell? ⟨g,3,none⟩=some (.string off)) (c4:w.cell? ⟨g,4,none⟩=some (.string tim)):NodeAt b w (.iface 173 (.pointer (some ⟨g,0,none⟩))) {zr 5 1 with dur:=d,step:=s,off:=off,tim:=tim} [.iface t x]
 |unary (g:Nat) (hb:b≤g) (hg:g<w.heap.size) (o:ByteArray) (t:TypeId) (x:Value) (c0:w.cell? ⟨g,0,none⟩=some (.string o)) (c1:w.cell? ⟨g,1,none⟩=some (.iface t x)):NodeAt b w (.iface 176 (.pointer (some ⟨g,0,none⟩))) {zr 6 1 with op:=o} [.iface t x]
 |binary (g:Nat) (hb:b≤g) (hg:g<w.heap.size) (o:ByteArray) (t u:TypeId) (x y:Value) (bo gi on:Bool) (vl vi:Value) (ls inc:List ByteArray) (card:Int) (hl:StrS b w vl ls) (hi:StrS b w vi inc) (c0:w.cell? ⟨g,0,none⟩=some (.string o)) (c1:w.cell? ⟨g,1,none⟩=some (.iface t x)) (c2:w.cell? ⟨g,2,none⟩=some (.iface u y)) (c3:w.cell? ⟨g,3,none⟩=some (.bool bo)) (c4:w.cell? ⟨g,4,none⟩=some (.bool gi)) (c5:w.cell? ⟨g,5,none⟩=some (.bool on)) (c6:w.cell? ⟨g,6,none⟩=some (vl)) (c7:w.cell? ⟨g,7,none⟩=some (.int .i64 card)) (c8:w.cell? ⟨g,8,none⟩=some (vi)):NodeAt b w (.iface 179 (.pointer (some ⟨g,0,none⟩))) {zr 7 2 with op:=o,bool:=bo,given:=gi,on:=on,mls:=ls,card:=card,inc:=inc} [.iface t x,.iface u y]
 |call (g:Nat) (hb:b≤g) (hg:g<w.heap.size) (o:ByteArray) (va:Value) (ks:List Value) (hk:ExpS b w va ks) (c0:w.cell? ⟨g,0,none⟩=some (.string o)) (c1:w.cell? ⟨g,1,none⟩=some (va)):NodeAt b w (.iface 183 (.pointer (some ⟨g,0,none⟩))) {zr 8 (ks.length:Nat)with op:=o} ks
 |aggr (g:Nat) (hb:b≤g) (hg:g<w.heap.size) (o:ByteArray) (t:TypeId) (x:Value) (wo:Bool) (vl:Value) (ls:List ByteArray) (hl:StrS b w vl ls) (c0:w.cell? ⟨g,0,none⟩=some (.string o)) (c1:w.cell? ⟨g,1,none⟩=some (.nilIface)) (c2:w.cell? ⟨g,2,none⟩=some (.iface t x)) (c3:w.cell? ⟨g,3,none⟩=some (.bool wo)) (c4:w.cell? ⟨g,4,none⟩=some (vl)):NodeAt b w (.iface 186 (.pointer (some ⟨g,0,none⟩))) {zr 9 1 with op:=o,without:=wo,labels:=ls} [.iface t x]
 |aggr2 (g:Nat) (hb:b≤g) (hg:g<w.heap.size) (o:ByteArray) (t u:TypeId) (x y:Value) (wo:Bool) (vl:Value) (ls:List ByteArray) (hl:StrS b w vl ls) (c0:w.cell? ⟨g,0,none⟩=some (.string o)) (c1:w.cell? ⟨g,1,none⟩=some (.iface u y)) (c2:w.cell? ⟨g,2,none⟩=some (.iface t x)) (c3:w.cell? ⟨g,3,none⟩=some (.bool wo)) (c4:w.cell? ⟨g,4,none⟩=some (vl)):NodeAt b w (.iface 186 (.pointer (some ⟨g,0,none⟩))) {zr 9 2 with op:=o,without:=wo,labels:=ls} [.iface u y,.iface t x]
theorem NodeAt.below {b:Nat} {w w':World} {v:Value} {r:PR} {ks:List Value} (h:NodeAt b w v r ks) (hB:Below w.heap.size w w'):NodeAt b w' v r ks:=by
 cases h<;>constructor<;>first|assumption|exact Nat.lt_of_lt_of_le (by assumption) hB.size|exact StrS.below (by assumption) hB|exact MatS.below (by assumption) hB|exact ExpS.below (by assumption) hB|exact(hB.cell (p:=⟨_,_,none⟩) (by assumption)).trans (by assumption)
theorem NodeAt.args {b:Nat} {w:World} {v:Value} {r:PR} {ks:List Value} (h:NodeAt b w v r ks) (h8:r.kind=8): ∃g va,v= .iface 183 (.pointer (some ⟨g,0,none⟩))∧w.cell? ⟨g,1,none⟩=some va∧ExpS b w va ks∧g<w.heap.size:=by
 cases h with
 |call g hb hg o va ks hk c0 c1=>exact⟨g,va,rfl,c1,hk,hg⟩
 |_=>simp[zr]at h8
def KeepT (t:TypeId) (A B:World):Prop:= ∀g cs,Blk A g t cs→Blk B g t cs
theorem KeepT.refl (t:TypeId) (A:World):KeepT t A A:=fun _ _ h=>h
theorem KeepT.trans {t:TypeId} {A B C:World} (h:KeepT t A B) (k:KeepT t B C):KeepT t A C:=fun g cs x=>k g cs (h g cs x)
theorem KeepT.of_below {t:TypeId} {A B:World} (h:Below A.heap.size A B):KeepT t A B:=fun _ _ x=>x.below h x.lt
def KidsPost (w0 w:World) (ks:List Value) (e:Ending) (w':World):Prop:=
 ∃s,e= .returned s∧ExpS 0 w' s ks∧Below w.heap.size w w'∧ ∀g o n c,0<ks.length→s= .slice (some ⟨g,o,none⟩) n c→g<w0.heap.size∨ ∃cs,Blk w' g 24 cs
theorem kids_none {w0 w:World}:KidsPost w0 w [] (.returned (.slice none 0 0)) w:=⟨_,rfl,⟨none,0,rfl,fun j h=>absurd h (by simp)⟩,Below.refl _ _,fun g o n c h=>absurd h (by simp)⟩
theorem kids_new {w00 w:World} {ks:List Value} (a:Array Value) (hl:a.toList=ks) (w0:World) (hb:Below w0.heap.size w0 w):KidsPost w00 w0 ks (.returned (.slice (some ⟨w.heap.size,0,none⟩) ks.length ks.length)) (w.alloc (.cells a 24)):=by
 subst hl;refine⟨_,rfl,⟨some ⟨w.heap.size,0,none⟩,_,rfl,fun j h=>⟨w.heap.size,0,rfl,Nat.zero_le _,by simp,?_⟩⟩,hb.alloc hb.size _,fun g o n c _ h=>?_⟩
 ·rw[World.cell?_alloc_at _ _ _ _ rfl];simp at h ⊢
 ·injection h with h1 _ _
  injection h1 with h1
  injection h1 with h1 _ _
  subst h1;exact .inr ⟨a,Blk.new _ _ _⟩
theorem tree_kidsOf {b : Nat} {w0 w : World} {v : Value} {r : PR} {ks : List Value} (h : NodeAt b w0 v r ks) (hB : Below w0.heap.size w0 w) : Calls Tryz.prog 103 #[v] w (KidsPost w0 w ks) := by
  have a1:=asRange
  have a2:=asSubquery
  have a3:=asUnary
  have a4:=asBinary
  have a5:=asCall
  have a6:=asAggregate
  have h':=h.below hB
  have HH:=Lib.hid h
  have HB:=Lib.hid hB
  clear h hB
  cases h' with
  | call g hb hg o va ks hk c0 c1 =>
    obtain⟨ao,c,rfl,hk2⟩:=hk
    have HK : Hid (∀ (j : Nat) (_ : j < ks.length), ∃ g o, ao = some ⟨g, o, none⟩ ∧ g < w0.heap.size) := Lib.hid fun j hj => by
      obtain⟨g',va',e,c1',hk',hg'⟩:=HH.out.args rfl
      injection e with _ e
      injection e with e
      injection e with e
      injection e with e _ _
      subst e
      rw[←HB.out.cell (p:=⟨g,1,none⟩) hg',c1]at c1'
      injection c1' with e
      subst e
      obtain⟨_,_,e,h2⟩:=hk'
      injection e with e
      subst e
      obtain⟨g,o,a,_,l,_⟩:=h2 j hj
      exact⟨g,o,a,l⟩
    have HE : Hid (ExpS 0 w (.slice ao ks.length c) ks) := Lib.hid ⟨ao, c, rfl, fun j hj => by
      obtain⟨g,o,a,_,l⟩:=hk2 j hj
      exact⟨g,o,a,Nat.zero_le _,l⟩⟩
    clear hk2
    go_enter Tryz.func103,Tryz.ntmps103
    go_wp2_with fail
    go_ret
    refine⟨_,rfl,HE.out,Below.refl _ _,fun g o n c' h1 h2=>?_⟩
    obtain⟨g',o',a,l⟩:=HK.out 0 h1
    subst a
    injection h2 with h2 _ _
    injection h2 with h2
    injection h2 with h2 _ _
    subst h2
    exact .inl l
  | _ =>
    go_enter Tryz.func103,Tryz.ntmps103
    go_wp2_with fail
    try(go_still_tail 8,(by kernel_rfl);go_wp2_with fail)
    go_ret
    first
    | exact kids_none
    | exact kids_new _ rfl _ (Below.refl _ _)
    | exact kids_new _ rfl _ (Go.below_drewN (Below.refl _ _) _)
end Go.Proofs.YtibcjfjacielbaaGreatDoor
