import Derived.Test.YtibcjfjacielbaaGreatDoorP36
import Derived.RegionTactic
import Derived.ChangeAlike
import Derived.BigRegion
import Derived.Deep.CutBlock
/- Part of the proof of YtibcjfjacielbaaGreatDoorCardP: TrT. -/
set_option maxRecDepth 100000
set_option maxHeartbeats 4000000
set_option linter.unusedVariables false
set_option linter.unusedSimpArgs false
namespace Go.Proofs.YtibcjfjacielbaaGreatDoor
open Go.RowKit
def SB (w:World) (A B:Array Value) (W:World):Prop:=Below w.heap.size w W∧Blk W w.heap.size 58 A∧Blk W (w.heap.size+1) 58 B
theorem SB.below {w:World} {A B:Array Value} {W W':World} (h:SB w A B W) (hb:Below W.heap.size W W'):SB w A B W':=⟨h.1.trans (hb.mono h.1.size),h.2.1.below hb h.2.1.lt,h.2.2.below hb h.2.2.lt⟩
theorem sb_new (w:World) (A B:Array Value):SB w A B ((w.alloc (.cells A 58)).alloc (.cells B 58)):=
 ⟨((Below.refl _ w).alloc (Nat.le_refl _) _).alloc (by simp) _,(Blk.new w _ A).alloc _,by have:=Blk.new (w.alloc (.cells A 58)) 58 B;simpa using this⟩
def SameXM (w:World) (A B:Array Value) (W:World) (p:Prop) (e:Ending) (W':World):Prop:= ∃b:Bool,e= .returned (.bool b)∧(b=true↔p)∧SB w A B W'∧Below W.heap.size W W'
theorem same_xm {w W:World} {A B:Array Value} {p:Prop} {f:FuncId} {args:Array Value} (h:Calls Tryz.prog f args W (EqPost W p)) (hs:SB w A B W):Calls Tryz.prog f args W (SameXM w A B W p):=
 h.mono fun e W' ⟨b,h1,h2,h3⟩=>⟨b,h1,h2,hs.below h3,h3⟩
theorem pr_ext {a b:PR} (h:a.kind=b.kind∧a.kids=b.kids∧a.op=b.op∧a.text=b.text∧a.dur=b.dur∧a.step=b.step∧a.off=b.off∧a.tim=b.tim∧a.bool=b.bool∧a.without=b.without∧a.ms=b.ms∧a.labels=b.labels)
  (h1:a.given=b.given) (h2:a.on=b.on) (h3:a.card=b.card) (h4:a.mls=b.mls) (h5:a.inc=b.inc):a=b:=by
 obtain⟨x1,x2,x3,x4,x5,x6,x7,x8,x9,x10,x11,x12,x13,x14,x15,x16,x17⟩:=a;obtain⟨y1,y2,y3,y4,y5,y6,y7,y8,y9,y10,y11,y12,y13,y14,y15,y16,y17⟩:=b;simp only at h h1 h2 h3 h4 h5;obtain⟨rfl,rfl,rfl,rfl,rfl,rfl,rfl,rfl,rfl,rfl,rfl,rfl⟩:=h;subst h1 h2 h3 h4 h5;rfl
theorem same_walk (w:World) (r1 r2:PR) (am1 ao1 ai1 al1:Option Addr) (nm1 cm1 no1 co1 ni1 ci1 nl1 cl1:Nat) (am2 ao2 ai2 al2:Option Addr) (nm2 cm2 no2 co2 ni2 ci2 nl2 cl2:Nat)
  (h1:RowLs 0 w r1 (.slice am1 nm1 cm1) (.slice ao1 no1 co1) (.slice ai1 ni1 ci1) (.slice al1 nl1 cl1)) (h2:RowLs 0 w r2 (.slice am2 nm2 cm2) (.slice ao2 no2 co2) (.slice ai2 ni2 ci2) (.slice al2 nl2 cl2))
  (s1:r1.ms.length≤1099511627776∧r1.mls.length≤1099511627776∧r1.inc.length≤1099511627776∧r1.labels.length≤1099511627776) (s2:r2.ms.length≤1099511627776∧r2.mls.length≤1099511627776∧r2.inc.length≤1099511627776∧r2.labels.length≤1099511627776):
  Calls Tryz.prog 76 #[.agg #[.int .i64 r1.kind,.int .i64 r1.kids,.string r1.op,.string r1.text,.slice am1 nm1 cm1,.string r1.dur,.string r1.step,.string r1.off,.string r1.tim,.bool r1.bool,.bool r1.given,.bool r1.on,.slice ao1 no1 co1,.int .i64 r1.card,.slice ai1 ni1 ci1,.bool r1.without,.slice al1 nl1 cl1],.agg #[.int .i64 r2.kind,.int .i64 r2.kids,.string r2.op,.string r2.text,.slice am2 nm2 cm2,.string r2.dur,.string r2.step,.string r2.off,.string r2.tim,.bool r2.bool,.bool r2.given,.bool r2.on,.slice ao2 no2 co2,.int .i64 r2.card,.slice ai2 ni2 ci2,.bool r2.without,.slice al2 nl2 cl2]] w (EqPost w (r1=r2)):=by
 obtain⟨A,hA⟩: ∃A,A=rowA r1 (.slice am1 nm1 cm1) (.slice ao1 no1 co1) (.slice ai1 ni1 ci1) (.slice al1 nl1 cl1):=⟨_,rfl⟩;obtain⟨B,hB⟩: ∃B,B=rowA r2 (.slice am2 nm2 cm2) (.slice ao2 no2 co2) (.slice ai2 ni2 ci2) (.slice al2 nl2 cl2):=⟨_,rfl⟩;have HA:=Lib.hid hA;have HBB:=Lib.hid hB;have HEM:Hid (∀W,SB w A B W→Calls Tryz.prog 126 #[.slice am1 nm1 cm1,.slice am2 nm2 cm2] W (SameXM w A B W (r1.ms=r2.ms))):=Lib.hid fun W hs=>same_xm (equal_mat (h1.1.below hs.1) (h2.1.below hs.1) s1.1 s2.1) hs
 have HEL:Hid (∀W,SB w A B W→Calls Tryz.prog 127 #[.slice al1 nl1 cl1,.slice al2 nl2 cl2] W (SameXM w A B W (r1.labels=r2.labels))):=Lib.hid fun W hs=>same_xm (equal_str (h1.2.2.2.below hs.1) (h2.2.2.2.below hs.1) s1.2.2.2 s2.2.2.2) hs
 have HEO:Hid (∀W,Below w.heap.size w W→Calls Tryz.prog 127 #[.slice ao1 no1 co1,.slice ao2 no2 co2] W (EqPost W (r1.mls=r2.mls))):=Lib.hid fun W hs=>equal_str (h1.2.1.below hs) (h2.2.1.below hs) s1.2.1 s2.2.1
 have HEI:Hid (∀W,Below w.heap.size w W→Calls Tryz.prog 127 #[.slice ai1 ni1 ci1,.slice ai2 ni2 ci2] W (EqPost W (r1.inc=r2.inc))):=Lib.hid fun W hs=>equal_str (h1.2.2.1.below hs) (h2.2.2.1.below hs) s1.2.2.1 s2.2.2.1
 have HS0:Hid (SB w A B ((w.alloc (.cells A 58)).alloc (.cells B 58))):=Lib.hid (sb_new w A B);obtain⟨W1,hW1⟩: ∃W1,W1=(w.alloc (.cells A 58)).alloc (.cells B 58):=⟨_,rfl⟩;rw[←hW1]at HS0;rw[hA,hB]at hW1;simp only[rowA]at hW1;have HW1:=Lib.hid hW1;clear h1 h2 s1 s2 hA hB hW1;have C1:=rowCells HS0.out.2.1 HA.out;have C2:=rowCells HS0.out.2.2 HBB.out;go_enter Tryz.func76,Tryz.ntmps76;go_upto_region 1 with(fail)
 rw[←HW1.out];go_wp2_with (first|(go_at_call 126;(with_reducible refine(HEM.out _ HS0.out).mono ?_);rintro e WM ⟨bm,rfl,hbm,hs,_⟩;have HSM:=Lib.hid hs;have HBM:=Lib.hid hbm;have M1:=rowCells hs.2.1 HA.out;have M2:=rowCells hs.2.2 HBB.out;clear hs hbm)|(go_at_call 127;(with_reducible refine(HEL.out _ HSM.out).mono ?_);rintro e WL ⟨bl,rfl,hbl,hs,_⟩;have HSL:=Lib.hid hs;have z1:w.heap.size+1<WL.heap.size:=hs.2.2.lt;have z0:w.heap.size<WL.heap.size:=hs.2.1.lt;have HBL:=Lib.hid hbl;have L1:=rowCells hs.2.1 HA.out;have L2:=rowCells hs.2.2 HBB.out;clear hs hbl))
 all_goals try(go_ret;rename_i hx;refine EqPost.no ?_ ?_;((intro e;subst e;first|(exact hx rfl)|(exact hx (HBM.out.2 rfl))|(rw[HBL.out.2 rfl]at hx;simp at hx)|(simp at hx)));(first|exact HSL.out.1|exact HSM.out.1|exact HS0.out.1))
 go_region
 all_goals
  have HAL:Hid (∀X Y,Below w.heap.size w ((WL.alloc X).alloc Y).drew):=Lib.hid fun X Y=>((HSL.out.1.alloc HSL.out.1.size X).alloc (by have:=HSL.out.1.size;simp;omega) Y).drew
  have HPQ:Hid (r1.kind=r2.kind∧r1.kids=r2.kids∧r1.op=r2.op∧r1.text=r2.text∧r1.dur=r2.dur∧r1.step=r2.step∧r1.off=r2.off∧r1.tim=r2.tim∧r1.bool=r2.bool∧r1.without=r2.without∧r1.ms=r2.ms∧r1.labels=r2.labels):=Lib.hid (by
   have g6:(!r1.step.toList==r2.step.toList)=false:=by assumption
   have g10:(!r1.without==r2.without)=false:=by assumption
   have g12:(!bl)=false:=by assumption
   exact⟨by assumption,by assumption,beq_str.1 (beq_iff_eq.2 (by assumption)),beq_str.1 (beq_iff_eq.2 (by assumption)),beq_str.1 (beq_iff_eq.2 (by assumption)),beq_str.1 (by simpa using g6),beq_str.1 (beq_iff_eq.2 (by assumption)),beq_str.1 (beq_iff_eq.2 (by assumption)),by assumption,by simpa using g10,HBM.out.1 (by assumption),HBL.out.1 (by simpa using g12)⟩)
  clear C1 C2 M1 M2 L1 L2;go_wp2_with (first|(go_at_call 127;(with_reducible refine(HEO.out _ (HAL.out _ _)).mono ?_);rintro e W5 ⟨bo,rfl,hbo,hb5⟩;have q0:=hb5.cell (p:=⟨WL.heap.size,4,none⟩) (by simp;omega);have q1:=hb5.cell (p:=⟨WL.heap.size+1,4,none⟩) (by simp);simp at q0 q1;have HB5:=Lib.hid ((HAL.out _ _).trans (hb5.mono (HAL.out _ _).size));have HBO:=Lib.hid hbo;clear hb5 hbo)|(go_at_call 127;(with_reducible refine(HEI.out _ HB5.out).mono ?_);rintro e W6 ⟨bi,rfl,hbi,hb6⟩;have HB6:=Lib.hid (HB5.out.trans (hb6.mono HB5.out.size));have HBI:=Lib.hid hbi;clear hb6 hbi))
  all_goals
   go_ret;rename_i hx
   first
   |exact⟨bi,rfl,⟨fun h=>pr_ext HPQ.out (by assumption) (by assumption) (by assumption) (HBO.out.1 hx) (HBI.out.1 h),fun e=>HBI.out.2 (by rw[e])⟩,HB6.out⟩
   |(refine EqPost.no ?_ ?_;((intro e;subst e;first|(exact hx rfl)|(exact hx (HBO.out.2 rfl))));(first|exact HB5.out|exact HAL.out _ _))
theorem tree_same {b1 b2:Nat} {w:World} {r1 r2:PR} {m1 o1 i1 l1 m2 o2 i2 l2:Value} (h1:RowLs b1 w r1 m1 o1 i1 l1) (h2:RowLs b2 w r2 m2 o2 i2 l2)
  (s1:r1.ms.length≤1099511627776∧r1.mls.length≤1099511627776∧r1.inc.length≤1099511627776∧r1.labels.length≤1099511627776) (s2:r2.ms.length≤1099511627776∧r2.mls.length≤1099511627776∧r2.inc.length≤1099511627776∧r2.labels.length≤1099511627776):
  Calls Tryz.prog 76 #[rowV r1 m1 o1 i1 l1,rowV r2 m2 o2 i2 l2] w (EqPost w (r1=r2)):=by
 have k1:=h1.lo (Nat.zero_le _);have k2:=h2.lo (Nat.zero_le _);obtain⟨⟨_,_,rfl,_⟩,⟨_,_,rfl,_⟩,⟨_,_,rfl,_⟩,⟨_,_,rfl,_⟩⟩:=h1;obtain⟨⟨_,_,rfl,_⟩,⟨_,_,rfl,_⟩,⟨_,_,rfl,_⟩,⟨_,_,rfl,_⟩⟩:=h2;exact same_walk w r1 r2 _ _ _ _ _ _ _ _ _ _ _ _ _ _ _ _ _ _ _ _ _ _ _ _ k1 k2 s1 s2
end Go.Proofs.YtibcjfjacielbaaGreatDoor
