import Derived.Test.YtibcjfjacielbaaGreatDoorH01
import Derived.Lib.DecodeN
import Derived.Lib.Strings
import Derived.Deep.QuietTactic
import Derived.BigQuiet
import Derived.Deep.RegionHeld3
import Derived.StillTailTactics
/- Part of the proof of YtibcjfjacielbaaGreatDoorCardH: TrD TkA. -/
set_option maxRecDepth 100000
set_option maxHeartbeats 4000000
set_option linter.unusedVariables false
set_option linter.unusedSimpArgs false
namespace Go.Proofs.YtibcjfjacielbaaGreatDoor
open Go.RowKit
theorem run_assert_ptr {P:Program} {t e:TypeId} (h:P.underlying t=some (.pointer e)) (hz: ∀w,(zeroValue t).run P w= .ok (.pointer none) w) (d:TypeId) (v:Value) (x:TypeId) (w:World):
  (Instr.typeAssert (.iface d v) x t true).run P w= .ok (.tuple #[if d=t then v else .pointer none,.bool (decide (d=t))]) w:=by
 unfold Instr.typeAssert;simp only[Sem.run_bind,run_underlying h,Result.andThen];by_cases hd:d=t
 ·simp[hd]
 ·simp[hd,hz,Sem.run_bind,Result.andThen]
theorem asNumber (d:TypeId) (v:Value) (x:TypeId) (w:World):(Instr.typeAssert (.iface d v) x 164 true).run Tryz.prog w= .ok (.tuple #[if d=164 then v else .pointer none,.bool (decide (d=164))]) w:=run_assert_ptr Tryz.underlying164 (fun _=>by kernel_rfl) d v x w
theorem asText (d:TypeId) (v:Value) (x:TypeId) (w:World):(Instr.typeAssert (.iface d v) x 167 true).run Tryz.prog w= .ok (.tuple #[if d=167 then v else .pointer none,.bool (decide (d=167))]) w:=run_assert_ptr Tryz.underlying167 (fun _=>by kernel_rfl) d v x w
theorem asSelector (d:TypeId) (v:Value) (x:TypeId) (w:World):(Instr.typeAssert (.iface d v) x 93 true).run Tryz.prog w= .ok (.tuple #[if d=93 then v else .pointer none,.bool (decide (d=93))]) w:=run_assert_ptr Tryz.underlying93 (fun _=>by kernel_rfl) d v x w
theorem asRange (d:TypeId) (v:Value) (x:TypeId) (w:World):(Instr.typeAssert (.iface d v) x 170 true).run Tryz.prog w= .ok (.tuple #[if d=170 then v else .pointer none,.bool (decide (d=170))]) w:=run_assert_ptr Tryz.underlying170 (fun _=>by kernel_rfl) d v x w
theorem asSubquery (d:TypeId) (v:Value) (x:TypeId) (w:World):(Instr.typeAssert (.iface d v) x 173 true).run Tryz.prog w= .ok (.tuple #[if d=173 then v else .pointer none,.bool (decide (d=173))]) w:=run_assert_ptr Tryz.underlying173 (fun _=>by kernel_rfl) d v x w
theorem asUnary (d:TypeId) (v:Value) (x:TypeId) (w:World):(Instr.typeAssert (.iface d v) x 176 true).run Tryz.prog w= .ok (.tuple #[if d=176 then v else .pointer none,.bool (decide (d=176))]) w:=run_assert_ptr Tryz.underlying176 (fun _=>by kernel_rfl) d v x w
theorem asBinary (d:TypeId) (v:Value) (x:TypeId) (w:World):(Instr.typeAssert (.iface d v) x 179 true).run Tryz.prog w= .ok (.tuple #[if d=179 then v else .pointer none,.bool (decide (d=179))]) w:=run_assert_ptr Tryz.underlying179 (fun _=>by kernel_rfl) d v x w
theorem asCall (d:TypeId) (v:Value) (x:TypeId) (w:World):(Instr.typeAssert (.iface d v) x 183 true).run Tryz.prog w= .ok (.tuple #[if d=183 then v else .pointer none,.bool (decide (d=183))]) w:=run_assert_ptr Tryz.underlying183 (fun _=>by kernel_rfl) d v x w
theorem asAggregate (d:TypeId) (v:Value) (x:TypeId) (w:World):(Instr.typeAssert (.iface d v) x 186 true).run Tryz.prog w= .ok (.tuple #[if d=186 then v else .pointer none,.bool (decide (d=186))]) w:=run_assert_ptr Tryz.underlying186 (fun _=>by kernel_rfl) d v x w
def eS:ByteArray:=⟨#[]⟩
def zr (k n:Int):PR:=⟨k,n,eS,eS,[],eS,eS,eS,eS,false,false,false,[],0,[],false,[]⟩
def ExpS (b:Nat) (w:World) (v:Value) (ks:List Value):Prop:=
 ∃ao c,v= .slice ao ks.length c∧ ∀j (h:j<ks.length),∃g o,ao=some ⟨g,o,none⟩∧b≤g∧g<w.heap.size∧w.cell? ⟨g,o+j,none⟩=some ks[j]
theorem ExpS.below {b:Nat} {w w':World} {v:Value} {ks:List Value} (h:ExpS b w v ks) (hb:Below w.heap.size w w'):ExpS b w' v ks:=by
 obtain⟨ao,c,h1,h2⟩:=h;refine⟨ao,c,h1,fun j hj=>?_⟩;obtain⟨g,o,a,l,u,x⟩:=h2 j hj;exact⟨g,o,a,l,Nat.lt_of_lt_of_le u hb.size,(hb.cell (p:=⟨g,_,none⟩) u).trans x⟩
inductive NodeAt (b:Nat) (w:World):Value→PR→List Value→Prop
 |number (g:Nat) (hb:b≤g) (hg:g<w.heap.size) (t:ByteArray) (c0:w.cell? ⟨g,0,none⟩=some (.string t)):NodeAt b w (.iface 164 (.pointer (some ⟨g,0,none⟩))) {zr 1 0 with text:=t} []
 |text (g:Nat) (hb:b≤g) (hg:g<w.heap.size) (t:ByteArray) (c0:w.cell? ⟨g,0,none⟩=some (.string t)):NodeAt b w (.iface 167 (.pointer (some ⟨g,0,none⟩))) {zr 2 0 with text:=t} []
 |selector (g:Nat) (hb:b≤g) (hg:g<w.heap.size) (t off tim:ByteArray) (vm:Value) (ms:List PM) (hm:MatS b w vm ms) (c0:w.cell? ⟨g,0,none⟩=some (.string t)) (c1:w.cell? ⟨g,1,none⟩=some (vm)) (c2:w.cell? ⟨g,2,none⟩=some (.string off)) (c3:w.cell? ⟨g,3,none⟩=some (.string tim)):NodeAt b w (.iface 93 (.pointer (some ⟨g,0,none⟩))) {zr 3 0 with text:=t,ms:=ms,off:=off,tim:=tim} []
 |range (g:Nat) (hb:b≤g) (hg:g<w.heap.size) (d:ByteArray) (p:Nat) (c0:w.cell? ⟨g,0,none⟩=some (.pointer (some ⟨p,0,none⟩))) (c1:w.cell? ⟨g,1,none⟩=some (.string d)):NodeAt b w (.iface 170 (.pointer (some ⟨g,0,none⟩))) {zr 4 1 with dur:=d} [.iface 93 (.pointer (some ⟨p,0,none⟩))]
 |subquery (g:Nat) (hb:b≤g) (hg:g<w.heap.size) (d s off tim:ByteArray) (t:TypeId) (x:Value) (c0:w.cell? ⟨g,0,none⟩=some (.iface t x)) (c1:w.cell? ⟨g,1,none⟩=some (.string d)) (c2:w.cell? ⟨g,2,none⟩=some (.string s)) (c3:w.cell? ⟨g,3,none⟩=some (.string off)) (c4:w.cell? ⟨g,4,none⟩=some (.string tim)):NodeAt b w (.iface 173 (.pointer (some ⟨g,0,none⟩))) {zr 5 1 with dur:=d,step:=s,off:=off,tim:=tim} [.iface t x]
 |unary (g:Nat) (hb:b≤g) (hg:g<w.heap.size) (o:ByteArray) (t:TypeId) (x:Value) (c0:w.cell? ⟨g,0,none⟩=some (.string o)) (c1:w.cell? ⟨g,1,none⟩=some (.iface t x)):NodeAt b w (.iface 176 (.pointer (some ⟨g,0,none⟩))) {zr 6 1 with op:=o} [.iface t x]
 |binary (g:Nat) (hb:b≤g) (hg:g<w.heap.size) (o:ByteArray) (t u:TypeId) (x y:Value) (bo gi on:Bool) (vl vi:Value) (ls inc:List ByteArray) (card:Int) (hl:StrS b w vl ls) (hi:StrS b w vi inc) (c0:w.cell? ⟨g,0,none⟩=some (.string o)) (c1:w.cell? ⟨g,1,none⟩=some (.iface t x)) (c2:w.cell? ⟨g,2,none⟩=some (.iface u y)) (c3:w.cell? ⟨g,3,none⟩=some (.bool bo)) (c4:w.cell? ⟨g,4,none⟩=some (.bool gi)) (c5:w.cell? ⟨g,5,none⟩=some (.bool on)) (c6:w.cell? ⟨g,6,none⟩=some (vl)) (c7:w.cell? ⟨g,7,none⟩=some (.int .i64 card)) (c8:w.cell? ⟨g,8,none⟩=some (vi)):NodeAt b w (.iface 179 (.pointer (some ⟨g,0,none⟩))) {zr 7 2 with op:=o,bool:=bo,given:=gi,on:=on,mls:=ls,card:=card,inc:=inc} [.iface t x,.iface u y]
 |call (g:Nat) (hb:b≤g) (hg:g<w.heap.size) (o:ByteArray) (va:Value) (ks:List Value) (hk:ExpS b w va ks) (c0:w.cell? ⟨g,0,none⟩=some (.string o)) (c1:w.cell? ⟨g,1,none⟩=some (va)):NodeAt b w (.iface 183 (.pointer (some ⟨g,0,none⟩))) {zr 8 (ks.length:Nat)with op:=o} ks
 |aggr (g:Nat) (hb:b≤g) (hg:g<w.heap.size) (o:ByteArray) (t:TypeId) (x:Value) (wo:Bool) (vl:Value) (ls:List ByteArray) (hl:StrS b w vl ls) (c0:w.cell? ⟨g,0,none⟩=some (.string o)) (c1:w.cell? ⟨g,1,none⟩=some (.nilIface)) (c2:w.cell? ⟨g,2,none⟩=some (.iface t x)) (c3:w.cell? ⟨g,3,none⟩=some (.bool wo)) (c4:w.cell? ⟨g,4,none⟩=some (vl)):NodeAt b w (.iface 186 (.pointer (some ⟨g,0,none⟩))) {zr 9 1 with op:=o,without:=wo,labels:=ls} [.iface t x]
 |aggr2 (g:Nat) (hb:b≤g) (hg:g<w.heap.size) (o:ByteArray) (t u:TypeId) (x y:Value) (wo:Bool) (vl:Value) (ls:List ByteArray) (hl:StrS b w vl ls) (c0:w.cell? ⟨g,0,none⟩=some (.string o)) (c1:w.cell? ⟨g,1,none⟩=some (.iface u y)) (c2:w.cell? ⟨g,2,none⟩=some (.iface t x)) (c3:w.cell? ⟨g,3,none⟩=some (.bool wo)) (c4:w.cell? ⟨g,4,none⟩=some (vl)):NodeAt b w (.iface 186 (.pointer (some ⟨g,0,none⟩))) {zr 9 2 with op:=o,without:=wo,labels:=ls} [.iface u y,.iface t x]
theorem NodeAt.below {b:Nat} {w w':World} {v:Value} {r:PR} {ks:List Value} (h:NodeAt b w v r ks) (hB:Below w.heap.size w w'):NodeAt b w' v r ks:=by
 cases h with
 |number g hb hg t c0=>exact .number g hb (Nat.lt_of_lt_of_le hg hB.size) t ((hB.cell (p:=⟨g,_,none⟩) hg).trans c0)
 |text g hb hg t c0=>exact .text g hb (Nat.lt_of_lt_of_le hg hB.size) t ((hB.cell (p:=⟨g,_,none⟩) hg).trans c0)
 |selector g hb hg t off tim vm ms hm c0 c1 c2 c3=>exact .selector g hb (Nat.lt_of_lt_of_le hg hB.size) t off tim vm ms (hm.below hB) ((hB.cell (p:=⟨g,_,none⟩) hg).trans c0) ((hB.cell (p:=⟨g,_,none⟩) hg).trans c1) ((hB.cell (p:=⟨g,_,none⟩) hg).trans c2) ((hB.cell (p:=⟨g,_,none⟩) hg).trans c3)
 |range g hb hg d p c0 c1=>exact .range g hb (Nat.lt_of_lt_of_le hg hB.size) d p ((hB.cell (p:=⟨g,_,none⟩) hg).trans c0) ((hB.cell (p:=⟨g,_,none⟩) hg).trans c1)
 |subquery g hb hg d s off tim t x c0 c1 c2 c3 c4=>exact .subquery g hb (Nat.lt_of_lt_of_le hg hB.size) d s off tim t x ((hB.cell (p:=⟨g,_,none⟩) hg).trans c0) ((hB.cell (p:=⟨g,_,none⟩) hg).trans c1) ((hB.cell (p:=⟨g,_,none⟩) hg).trans c2) ((hB.cell (p:=⟨g,_,none⟩) hg).trans c3) ((hB.cell (p:=⟨g,_,none⟩) hg).trans c4)
 |unary g hb hg o t x c0 c1=>exact .unary g hb (Nat.lt_of_lt_of_le hg hB.size) o t x ((hB.cell (p:=⟨g,_,none⟩) hg).trans c0) ((hB.cell (p:=⟨g,_,none⟩) hg).trans c1)
 |binary g hb hg o t u x y bo gi on vl vi ls inc card hl hi c0 c1 c2 c3 c4 c5 c6 c7 c8=>exact .binary g hb (Nat.lt_of_lt_of_le hg hB.size) o t u x y bo gi on vl vi ls inc card (hl.below hB) (hi.below hB) ((hB.cell (p:=⟨g,_,none⟩) hg).trans c0) ((hB.cell (p:=⟨g,_,none⟩) hg).trans c1) ((hB.cell (p:=⟨g,_,none⟩) hg).trans c2) ((hB.cell (p:=⟨g,_,none⟩) hg).trans c3) ((hB.cell (p:=⟨g,_,none⟩) hg).trans c4) ((hB.cell (p:=⟨g,_,none⟩) hg).trans c5) ((hB.cell (p:=⟨g,_,none⟩) hg).trans c6) ((hB.cell (p:=⟨g,_,none⟩) hg).trans c7) ((hB.cell (p:=⟨g,_,none⟩) hg).trans c8)
 |call g hb hg o va ks hk c0 c1=>exact .call g hb (Nat.lt_of_lt_of_le hg hB.size) o va ks (hk.below hB) ((hB.cell (p:=⟨g,_,none⟩) hg).trans c0) ((hB.cell (p:=⟨g,_,none⟩) hg).trans c1)
 |aggr g hb hg o t x wo vl ls hl c0 c1 c2 c3 c4=>exact .aggr g hb (Nat.lt_of_lt_of_le hg hB.size) o t x wo vl ls (hl.below hB) ((hB.cell (p:=⟨g,_,none⟩) hg).trans c0) ((hB.cell (p:=⟨g,_,none⟩) hg).trans c1) ((hB.cell (p:=⟨g,_,none⟩) hg).trans c2) ((hB.cell (p:=⟨g,_,none⟩) hg).trans c3) ((hB.cell (p:=⟨g,_,none⟩) hg).trans c4)
 |aggr2 g hb hg o t u x y wo vl ls hl c0 c1 c2 c3 c4=>exact .aggr2 g hb (Nat.lt_of_lt_of_le hg hB.size) o t u x y wo vl ls (hl.below hB) ((hB.cell (p:=⟨g,_,none⟩) hg).trans c0) ((hB.cell (p:=⟨g,_,none⟩) hg).trans c1) ((hB.cell (p:=⟨g,_,none⟩) hg).trans c2) ((hB.cell (p:=⟨g,_,none⟩) hg).trans c3) ((hB.cell (p:=⟨g,_,none⟩) hg).trans c4)
def KeepT (t:TypeId) (A B:World):Prop:= ∀g cs,Blk A g t cs→Blk B g t cs
theorem KeepT.refl (t:TypeId) (A:World):KeepT t A A:=fun _ _ h=>h
theorem KeepT.trans {t:TypeId} {A B C:World} (h:KeepT t A B) (k:KeepT t B C):KeepT t A C:=fun g cs x=>k g cs (h g cs x)
theorem KeepT.of_below {t:TypeId} {A B:World} (h:Below A.heap.size A B):KeepT t A B:=fun _ _ x=>x.below h x.lt
def KidsPost (w0 w:World) (ks:List Value) (e:Ending) (w':World):Prop:=
 ∃s,e= .returned s∧ExpS 0 w' s ks∧Below w.heap.size w w'∧ ∀g o n c,0<ks.length→s= .slice (some ⟨g,o,none⟩) n c→g<w0.heap.size∨ ∃cs,Blk w' g 24 cs
theorem kids_none {w0 w:World}:KidsPost w0 w [] (.returned (.slice none 0 0)) w:=⟨_,rfl,⟨none,0,rfl,fun j h=>absurd h (by simp)⟩,Below.refl _ _,fun g o n c h=>absurd h (by simp)⟩
theorem kids_new {w00 w:World} {ks:List Value} (a:Array Value) (hl:a.toList=ks) (w0:World) (hb:Below w0.heap.size w0 w):KidsPost w00 w0 ks (.returned (.slice (some ⟨w.heap.size,0,none⟩) ks.length ks.length)) (w.alloc (.cells a 24)):=by
 subst hl;refine⟨_,rfl,⟨some ⟨w.heap.size,0,none⟩,_,rfl,fun j h=>⟨w.heap.size,0,rfl,Nat.zero_le _,by simp,?_⟩⟩,hb.alloc hb.size _,fun g o n c _ h=>?_⟩
 ·rw[World.cell?_alloc_at _ _ _ _ rfl];simp at h ⊢
 ·injection h with h1 _ _
  injection h1 with h1
  injection h1 with h1 _ _
  subst h1;exact .inr ⟨a,Blk.new _ _ _⟩
theorem tree_kidsOf {b:Nat} {w0 w:World} {v:Value} {r:PR} {ks:List Value} (h:NodeAt b w0 v r ks) (hB:Below w0.heap.size w0 w):Calls Tryz.prog 103 #[v] w (KidsPost w0 w ks):=by
 have a1:=asRange;have a2:=asSubquery;have a3:=asUnary;have a4:=asBinary;have a5:=asCall;have a6:=asAggregate;cases h with
 |number g hb hg t c0=>
  have HB:=Lib.hid hB;replace c0:=(hB.cell (p:=⟨g,0,none⟩) hg).trans c0;clear hB;go_enter Tryz.func103,Tryz.ntmps103;go_wp2_with fail;go_ret;exact kids_none
 |text g hb hg t c0=>
  have HB:=Lib.hid hB;replace c0:=(hB.cell (p:=⟨g,0,none⟩) hg).trans c0;clear hB;go_enter Tryz.func103,Tryz.ntmps103;go_wp2_with fail;go_ret;exact kids_none
 |selector g hb hg t off tim vm ms hm c0 c1 c2 c3=>
  have HB:=Lib.hid hB;replace c0:=(hB.cell (p:=⟨g,0,none⟩) hg).trans c0;replace c1:=(hB.cell (p:=⟨g,1,none⟩) hg).trans c1;replace c2:=(hB.cell (p:=⟨g,2,none⟩) hg).trans c2;replace c3:=(hB.cell (p:=⟨g,3,none⟩) hg).trans c3;clear hB;go_enter Tryz.func103,Tryz.ntmps103;go_wp2_with fail;go_ret;exact kids_none
 |range g hb hg d p c0 c1=>
  have HB:=Lib.hid hB;replace c0:=(hB.cell (p:=⟨g,0,none⟩) hg).trans c0;replace c1:=(hB.cell (p:=⟨g,1,none⟩) hg).trans c1;clear hB;go_enter Tryz.func103,Tryz.ntmps103;go_wp2_with fail;go_ret;exact kids_new _ rfl _ (Below.refl _ _)
 |subquery g hb hg d s off tim t x c0 c1 c2 c3 c4=>
  have HB:=Lib.hid hB;replace c0:=(hB.cell (p:=⟨g,0,none⟩) hg).trans c0;replace c1:=(hB.cell (p:=⟨g,1,none⟩) hg).trans c1;replace c2:=(hB.cell (p:=⟨g,2,none⟩) hg).trans c2;replace c3:=(hB.cell (p:=⟨g,3,none⟩) hg).trans c3;replace c4:=(hB.cell (p:=⟨g,4,none⟩) hg).trans c4;clear hB;go_enter Tryz.func103,Tryz.ntmps103;go_wp2_with fail;go_ret;exact kids_new _ rfl _ (Below.refl _ _)
 |unary g hb hg o t x c0 c1=>
  have HB:=Lib.hid hB;replace c0:=(hB.cell (p:=⟨g,0,none⟩) hg).trans c0;replace c1:=(hB.cell (p:=⟨g,1,none⟩) hg).trans c1;clear hB;go_enter Tryz.func103,Tryz.ntmps103;go_wp2_with fail;go_ret;exact kids_new _ rfl _ (Below.refl _ _)
 |binary g hb hg o t u x y bo gi on vl vi ls inc card hl hi c0 c1 c2 c3 c4 c5 c6 c7 c8=>
  have HB:=Lib.hid hB;replace c0:=(hB.cell (p:=⟨g,0,none⟩) hg).trans c0;replace c1:=(hB.cell (p:=⟨g,1,none⟩) hg).trans c1;replace c2:=(hB.cell (p:=⟨g,2,none⟩) hg).trans c2;replace c3:=(hB.cell (p:=⟨g,3,none⟩) hg).trans c3;replace c4:=(hB.cell (p:=⟨g,4,none⟩) hg).trans c4;replace c5:=(hB.cell (p:=⟨g,5,none⟩) hg).trans c5;replace c6:=(hB.cell (p:=⟨g,6,none⟩) hg).trans c6;replace c7:=(hB.cell (p:=⟨g,7,none⟩) hg).trans c7;replace c8:=(hB.cell (p:=⟨g,8,none⟩) hg).trans c8;clear hB;go_enter Tryz.func103,Tryz.ntmps103;go_wp2_with fail;go_still_tail 8,(by kernel_rfl);go_wp2_with fail;go_ret;exact kids_new _ rfl _ (Go.below_drewN (Below.refl _ _) _)
 |call g hb hg o va ks hk c0 c1=>
  have HB:=Lib.hid hB;replace c0:=(hB.cell (p:=⟨g,0,none⟩) hg).trans c0;replace c1:=(hB.cell (p:=⟨g,1,none⟩) hg).trans c1;clear hB;obtain⟨ao,c,rfl,hk2⟩:=hk;have HK:=Lib.hid hk2;clear hk2;go_enter Tryz.func103,Tryz.ntmps103;go_wp2_with fail;go_ret;refine⟨_,rfl,⟨ao,c,rfl,fun j hj=>?_⟩,Below.refl _ _,fun g o n c' h1 h2=>?_⟩
  ·obtain⟨g,o,a,_,l,x⟩:=HK.out j hj;exact⟨g,o,a,Nat.zero_le _,Nat.lt_of_lt_of_le l HB.out.size,(HB.out.cell (p:=⟨g,_,none⟩) l).trans x⟩
  ·obtain⟨g',o',a,_,l,_⟩:=HK.out 0 h1;subst a;injection h2 with h2 _ _
   injection h2 with h2
   injection h2 with h2 _ _
   subst h2;exact .inl l
 |aggr g hb hg o t x wo vl ls hl c0 c1 c2 c3 c4=>
  have HB:=Lib.hid hB;replace c0:=(hB.cell (p:=⟨g,0,none⟩) hg).trans c0;replace c1:=(hB.cell (p:=⟨g,1,none⟩) hg).trans c1;replace c2:=(hB.cell (p:=⟨g,2,none⟩) hg).trans c2;replace c3:=(hB.cell (p:=⟨g,3,none⟩) hg).trans c3;replace c4:=(hB.cell (p:=⟨g,4,none⟩) hg).trans c4;clear hB;go_enter Tryz.func103,Tryz.ntmps103;go_wp2_with fail;go_ret;exact kids_new _ rfl _ (Below.refl _ _)
 |aggr2 g hb hg o t u x y wo vl ls hl c0 c1 c2 c3 c4=>
  have HB:=Lib.hid hB;replace c0:=(hB.cell (p:=⟨g,0,none⟩) hg).trans c0;replace c1:=(hB.cell (p:=⟨g,1,none⟩) hg).trans c1;replace c2:=(hB.cell (p:=⟨g,2,none⟩) hg).trans c2;replace c3:=(hB.cell (p:=⟨g,3,none⟩) hg).trans c3;replace c4:=(hB.cell (p:=⟨g,4,none⟩) hg).trans c4;clear hB;go_enter Tryz.func103,Tryz.ntmps103;go_wp2_with fail;go_still_tail 8,(by kernel_rfl);go_wp2_with fail;go_ret;exact kids_new _ rfl _ (Go.below_drewN (Below.refl _ _) _)
def markGo:Nat→Nat→List UInt8→List UInt8
 |0,_,s=>s
 |f+1,n,s=>if n=0 then s else markGo f (n/2) (s++[UInt8.ofNat (97+n%2)])
def markS (n:Nat):ByteArray:=⟨(markGo 64 n [109]).toArray⟩
theorem markGo_more (f:Nat): ∀(g n:Nat) (s:List UInt8),n<2^f→f≤g→markGo f n s=markGo g n s:=by
 induction f with
 |zero=>
  intro g n s h _;have:n=0:=by omega
  subst this;cases g<;>simp[markGo]
 |succ f ih=>
  intro g n s h hg;obtain⟨g,rfl⟩: ∃k,g=k+1:=⟨g-1,by omega⟩;unfold markGo;by_cases h0:n=0
  ·simp[h0]
  ·rw[if_neg h0,if_neg h0];exact ih g (n/2) _ (by rw[Nat.pow_succ]at h;omega) (by omega)
theorem markGo_step {n : Nat} (s : List UInt8) (h0 : n ≠ 0) (h : n < 1099511627776) : markGo 64 n s = markGo 64 (n / 2) (s ++ [UInt8.ofNat (97 + n % 2)]) := by
  rw[←markGo_more 40 64 n s (by simpa using h) (by omega)]
  unfold markGo
  rw[if_neg h0]
  exact markGo_more 39 64 _ _ (by have : (2 : Nat) ^ 39 = 549755813888 := by decide
                                  omega) (by omega)
theorem mark_is (n:Nat) (w:World) (hn:n<1099511627776):Calls Tryz.prog 124 #[.int .i64 (n:Int)] w fun e w'=>e= .returned (.string (markS n))∧Below w.heap.size w w':=by
 go_enter Tryz.func124,Tryz.ntmps124;go_wp2_with fail;go_loopw [0,3] (fun t0 t3 W=> ∃(k:Nat) (s:List UInt8),t0= .int .i64 (k:Int)∧t3= .string ⟨s.toArray⟩∧Hid (markGo 64 k s=markGo 64 n [109])∧Hid (k<1099511627776∧s.length+k≤1099511627777)∧Hid (Below w.heap.size w W)) (fun t0 _ _=>(intOf t0).toNat)
 case atStart=>exact⟨n,[109],rfl,rfl,Lib.hid rfl,Lib.hid ⟨hn,by simp only[List.length_cons,List.length_nil];omega⟩,Lib.hid (Below.refl _ _)⟩
 case round=>
  obtain⟨k,s,rfl,rfl,hs,hk,hb⟩:=hrel;by_cases h0:k=0
  ·subst h0;have HP:Hid ((⟨s.toArray⟩:ByteArray)=markS n):=Lib.hid (by have:=hs.out;rw[show markGo 64 0 s=s from rfl]at this;rw[this];rfl);go_wp2_with fail;go_ret;exact⟨ret_str HP.out,hb.out⟩
  ·have p1:((0:Int)<(k:Int))=True:=eq_true (by omega);obtain⟨hk',hl'⟩:=hk.out;have hl2:s.length≤1099511627776:=by omega
   have hc:(convert 142 9 (.slice (some ⟨wr.heap.size,0,none⟩) 1 1)).run Tryz.prog (wr.alloc (.cells #[.int .u8 (97+(k:Int)%2)] 5))= .ok (.string ⟨#[UInt8.ofNat (97+k%2)]⟩) (wr.alloc (.cells #[.int .u8 (97+(k:Int)%2)] 5)):=by
    refine run_string_of (l:=[UInt8.ofNat (97+k%2)]) (fun j hj=>?_) _ _ 5 1 1 rfl Tryz.underlying142 Tryz.underlying5 Tryz.underlying9;have hj0:j=0:=by simpa using hj
    subst hj0;have hz:=Blk.new wr 5 #[.int .u8 (97+(k:Int)%2)];refine⟨(hz.cell 0).trans ?_,hz.frozen 0⟩;have h2:k%2<2:=Nat.mod_lt _ (by omega);have h3:(UInt8.ofNat (97+k%2)).toNat=97+k%2:=by rw[UInt8.toNat_ofNat'];omega
    show some (Value.int .u8 (97+(k:Int)%2))=some (Value.int .u8 ((UInt8.ofNat (97+k%2)).toNat:Int));rw[h3]
    congr 2
   go_wp2_with fail;go_roundw
   case rel=>
    refine⟨k/2,s++[UInt8.ofNat (97+k%2)],by go_num,?_,Lib.hid ((markGo_step s h0 hk').symm.trans hs.out),Lib.hid ⟨by omega,by simp only[List.length_append,List.length_cons,List.length_nil];omega⟩,Lib.hid (hb.out.alloc hb.out.size _)⟩;refine congrArg Value.string (ByteArray.ext ?_);simp[ByteArray.data_append,UInt8.ofNat_add]
   case measure=>simp[intOf];omega
end Go.Proofs.YtibcjfjacielbaaGreatDoor
