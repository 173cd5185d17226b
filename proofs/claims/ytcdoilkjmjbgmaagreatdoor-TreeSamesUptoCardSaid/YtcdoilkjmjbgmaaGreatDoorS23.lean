import Derived.Test.YtcdoilkjmjbgmaaGreatDoorS21
import Derived.Deep.RegionHeld3
import Derived.StillTailTactics
import Derived.Shelf.SlicesE.Clone
import Derived.Shelf.SlicesQ.Equal
import Derived.Shelf.SlicesQ.IndexFunc
import Derived.Shelf.SlicesE.IndexFunc
import Derived.Deep.RegionWith
import Derived.Outline
import Derived.RegionTactic
import Derived.ChangeAlike
import Derived.BigRegion
import Derived.Deep.CutBlock
/- Part of the proof of YtcdoilkjmjbgmaaGreatDoorCardY: TrT TsC. -/
set_option maxRecDepth 100000
set_option maxHeartbeats 4000000
set_option linter.unusedVariables false
set_option linter.unusedSimpArgs false
namespace Go.Proofs.YtcdoilkjmjbgmaaGreatDoor
open Go.RowKit
open Go.Proofs.Tryz
variable {w W WA W1:World} {A B args:Array Value} {a b r1 r2 r:PR} {b1 b2:Nat} {m1 o1 i1 l1 m2 o2 i2 l2 m o i l:Value}
def SB (w:World) (A B:Array Value) (W:World):Prop:=Below w.heap.size w W∧aM W w.heap.size 46 A∧aM W (w.heap.size+1) 46 B
theorem SB.below {w:World} {A B:Array Value} {W W':World} (h:SB w A B W) (hb:Below W.heap.size W W'):SB w A B W':=⟨h.1.trans (hb.mono h.1.size),h.2.1.below hb h.2.1.lt,h.2.2.below hb h.2.2.lt⟩
theorem acj (w:World) (A B:Array Value):SB w A B ((w.alloc (.cells A 46)).alloc (.cells B 46)):=
 ⟨((aU _ w).alloc (aS _) _).alloc (by simp) _,(aM.new w _ A).alloc _,by have:=aM.new (w.alloc (.cells A 46)) 46 B;simpa using this⟩
def L7 (w:World) (A B:Array Value) (W:World) (p:Prop) (e:Ending) (W':World):Prop:= ∃b:Bool,e= .returned (.bool b)∧(b=true↔p)∧SB w A B W'∧Below W.heap.size W W'
theorem O3 {p:Prop} {f:FuncId} (h:Calls prog f args W (bD W p)) (hs:SB w A B W):Calls prog f args W (L7 w A B W p):=
 h.mono fun e W' ⟨b,h1,h2,h3⟩=>⟨b,h1,h2,hs.below h3,h3⟩
theorem T0 (h:a.kind=b.kind∧a.kids=b.kids∧a.op=b.op∧a.text=b.text∧a.bU=b.bU∧a.step=b.step∧a.off=b.off∧a.tim=b.tim∧a.bool=b.bool∧a.without=b.without∧a.ms=b.ms∧a.labels=b.labels)
  (h1:a.given=b.given) (h2:a.on=b.on) (h3:a.card=b.card) (h4:a.mls=b.mls) (h5:a.inc=b.inc):a=b:=by
 obtain⟨x1,x2,x3,x4,x5,x6,x7,x8,x9,x10,x11,x12,x13,x14,x15,x16,x17⟩:=a;obtain⟨y1,y2,y3,y4,y5,y6,y7,y8,y9,y10,y11,y12,y13,y14,y15,y16,y17⟩:=b;simp only at h h1 h2 h3 h4 h5;obtain⟨rfl,rfl,rfl,rfl,rfl,rfl,rfl,rfl,rfl,rfl,rfl,rfl⟩:=h;subst h1 h2 h3 h4 h5;rfl
theorem Ra (w:World) (r1 r2:PR) (Sw Sx Sy Sz:Option Addr) (SA SC SD SE SF SG SH SJ:Nat) (K5 uY K6 K7:Option Addr) (K8 K9 La Lb Lc Ld Le Lf:Nat)
  (h1:bA 0 w r1 (.slice Sw SA SC) (.slice Sx SD SE) (.slice Sy SF SG) (.slice Sz SH SJ)) (h2:bA 0 w r2 (.slice K5 K8 K9) (.slice uY La Lb) (.slice K6 Lc Ld) (.slice K7 Le Lf))
  (s1:r1.ms.length≤1099511627776∧r1.mls.length≤1099511627776∧r1.inc.length≤1099511627776∧r1.labels.length≤1099511627776) (s2:r2.ms.length≤1099511627776∧r2.mls.length≤1099511627776∧r2.inc.length≤1099511627776∧r2.labels.length≤1099511627776):
  Calls prog 47 #[.agg #[.int .i64 r1.kind,.int .i64 r1.kids,.string r1.op,.string r1.text,.slice Sw SA SC,.string r1.bU,.string r1.step,.string r1.off,.string r1.tim,.bool r1.bool,.bool r1.given,.bool r1.on,.slice Sx SD SE,.int .i64 r1.card,.slice Sy SF SG,.bool r1.without,.slice Sz SH SJ],.agg #[.int .i64 r2.kind,.int .i64 r2.kids,.string r2.op,.string r2.text,.slice K5 K8 K9,.string r2.bU,.string r2.step,.string r2.off,.string r2.tim,.bool r2.bool,.bool r2.given,.bool r2.on,.slice uY La Lb,.int .i64 r2.card,.slice K6 Lc Ld,.bool r2.without,.slice K7 Le Lf]] w (bD w (r1=r2)):=by
 obtain⟨A,hA⟩: ∃A,A=et r1 (.slice Sw SA SC) (.slice Sx SD SE) (.slice Sy SF SG) (.slice Sz SH SJ):=⟨_,rfl⟩;obtain⟨B,hB⟩: ∃B,B=et r2 (.slice K5 K8 K9) (.slice uY La Lb) (.slice K6 Lc Ld) (.slice K7 Le Lf):=⟨_,rfl⟩;have HA:=ae hA;have kG:=ae hB;have HEM:Hid (∀W,SB w A B W→Calls prog 68 #[.slice Sw SA SC,.slice K5 K8 K9] W (L7 w A B W (r1.ms=r2.ms))):=ae fun W hs=>O3 (Q9 (h1.1.below hs.1) (h2.1.below hs.1) s1.1 s2.1) hs
 have HEL:Hid (∀W,SB w A B W→Calls prog 69 #[.slice Sz SH SJ,.slice K7 Le Lf] W (L7 w A B W (r1.labels=r2.labels))):=ae fun W hs=>O3 (xQ (h1.2.2.2.below hs.1) (h2.2.2.2.below hs.1) s1.2.2.2 s2.2.2.2) hs
 have HEO:Hid (∀W,Below w.heap.size w W→Calls prog 69 #[.slice Sx SD SE,.slice uY La Lb] W (bD W (r1.mls=r2.mls))):=ae fun W hs=>xQ (h1.2.1.below hs) (h2.2.1.below hs) s1.2.1 s2.2.1
 have HEI:Hid (∀W,Below w.heap.size w W→Calls prog 69 #[.slice Sy SF SG,.slice K6 Lc Ld] W (bD W (r1.inc=r2.inc))):=ae fun W hs=>xQ (h1.2.2.1.below hs) (h2.2.2.1.below hs) s1.2.2.1 s2.2.2.1
 have Aj:Hid (SB w A B ((w.alloc (.cells A 46)).alloc (.cells B 46))):=ae (acj w A B);obtain⟨W1,lX⟩: ∃W1,W1=(w.alloc (.cells A 46)).alloc (.cells B 46):=⟨_,rfl⟩;rw[←lX]at Aj;rw[hA,hB]at lX;simp only[et]at lX;have FH:=ae lX;clear h1 h2 s1 s2 hA hB lX;have C1:=aI Aj.out.2.1 HA.out;have C2:=aI Aj.out.2.2 kG.out;go_enter func47,ntmps47;go_upto_region 1 with(fail)
 rw[←FH.out];go_wp2_with (first|(go_at_call 68;(with_reducible refine(HEM.out _ Aj.out).mono ?_);rintro e WM ⟨bm,rfl,hbm,hs,_⟩;have sR:=ae hs;have Lg:=ae hbm;have M1:=aI hs.2.1 HA.out;have M2:=aI hs.2.2 kG.out;clear hs hbm)|(go_at_call 69;(with_reducible refine(HEL.out _ sR.out).mono ?_);rintro e WL ⟨bl,rfl,oe,hs,_⟩;have HSL:=ae hs;have z1:w.heap.size+1<WL.heap.size:=hs.2.2.lt;have z0:w.heap.size<WL.heap.size:=hs.2.1.lt;have Ww:=ae oe;have L1:=aI hs.2.1 HA.out;have L2:=aI hs.2.2 kG.out;clear hs oe))
 all_goals try(go_ret;rename_i hx;refine bD.no ?_ ?_;((intro e;subst e;first|(exact hx rfl)|(exact hx (Lg.out.2 rfl))|(rw[Ww.out.2 rfl]at hx;simp at hx)|(simp at hx)));(first|exact HSL.out.1|exact sR.out.1|exact Aj.out.1))
 go_region
 all_goals
  have HAL:Hid (∀X Y,Below w.heap.size w ((WL.alloc X).alloc Y).drew):=ae fun X Y=>((HSL.out.1.alloc HSL.out.1.size X).alloc (by have:=HSL.out.1.size;simp;omega) Y).drew
  have HPQ:Hid (r1.kind=r2.kind∧r1.kids=r2.kids∧r1.op=r2.op∧r1.text=r2.text∧r1.bU=r2.bU∧r1.step=r2.step∧r1.off=r2.off∧r1.tim=r2.tim∧r1.bool=r2.bool∧r1.without=r2.without∧r1.ms=r2.ms∧r1.labels=r2.labels):=ae (by
   have g6:(!r1.step.toList==r2.step.toList)=false:=by assumption
   have g10:(!r1.without==r2.without)=false:=by assumption
   have g12:(!bl)=false:=by assumption
   exact⟨by assumption,by assumption,dY.1 (cx.2 (by assumption)),dY.1 (cx.2 (by assumption)),dY.1 (cx.2 (by assumption)),dY.1 (by simpa using g6),dY.1 (cx.2 (by assumption)),dY.1 (cx.2 (by assumption)),by assumption,by simpa using g10,Lg.out.1 (by assumption),Ww.out.1 (by simpa using g12)⟩)
  clear C1 C2 M1 M2 L1 L2;go_wp2_with (first|(go_at_call 69;(with_reducible refine(HEO.out _ (HAL.out _ _)).mono ?_);rintro e W5 ⟨bo,rfl,H6,lj⟩;have q0:=lj.cell (p:=⟨WL.heap.size,4,none⟩) (by simp;omega);have q1:=lj.cell (p:=⟨WL.heap.size+1,4,none⟩) (by simp);simp at q0 q1;have mW:=ae ((HAL.out _ _).trans (lj.mono (HAL.out _ _).size));have HBO:=ae H6;clear lj H6)|(go_at_call 69;(with_reducible refine(HEI.out _ mW.out).mono ?_);rintro e W6 ⟨bi,rfl,hbi,NU⟩;have HB6:=ae (mW.out.trans (NU.mono mW.out.size));have HBI:=ae hbi;clear NU hbi))
  all_goals
   go_ret;rename_i hx
   first
   |exact⟨bi,rfl,⟨fun h=>T0 HPQ.out (by assumption) (by assumption) (by assumption) (HBO.out.1 hx) (HBI.out.1 h),fun e=>HBI.out.2 (by rw[e])⟩,HB6.out⟩
   |(refine bD.no ?_ ?_;((intro e;subst e;first|(exact hx rfl)|(exact hx (HBO.out.2 rfl))));(first|exact mW.out|exact HAL.out _ _))
theorem Ff (h1:bA b1 w r1 m1 o1 i1 l1) (h2:bA b2 w r2 m2 o2 i2 l2)
  (s1:r1.ms.length≤1099511627776∧r1.mls.length≤1099511627776∧r1.inc.length≤1099511627776∧r1.labels.length≤1099511627776) (s2:r2.ms.length≤1099511627776∧r2.mls.length≤1099511627776∧r2.inc.length≤1099511627776∧r2.labels.length≤1099511627776):
  Calls prog 47 #[jM r1 m1 o1 i1 l1,jM r2 m2 o2 i2 l2] w (bD w (r1=r2)):=by
 have k1:=h1.lo (aV _);have k2:=h2.lo (aV _);obtain⟨⟨_,_,rfl,_⟩,⟨_,_,rfl,_⟩,⟨_,_,rfl,_⟩,⟨_,_,rfl,_⟩⟩:=h1;obtain⟨⟨_,_,rfl,_⟩,⟨_,_,rfl,_⟩,⟨_,_,rfl,_⟩,⟨_,_,rfl,_⟩⟩:=h2;exact Ra w r1 r2 _ _ _ _ _ _ _ _ _ _ _ _ _ _ _ _ _ _ _ _ _ _ _ _ k1 k2 s1 s2
theorem uE {b:Nat} (h:bA b w r m o i l): ∀u∈(et r m o i l).toList,u.oneCell'=true:=by
 obtain⟨⟨_,_,rfl,_⟩,⟨_,_,rfl,_⟩,⟨_,_,rfl,_⟩,⟨_,_,rfl,_⟩⟩:=h;intro u hu;simp only[et,gL,ll,iX]at hu;rcases hu with rfl|rfl|rfl|rfl|rfl|rfl|rfl|rfl|rfl|rfl|rfl|rfl|rfl|rfl|rfl|rfl|rfl<;>rfl
theorem L8 (h:A=et r m o i l):Value.agg #[.int .i64 r.kind,.int .i64 r.kids,.string r.op,.string r.text,m,.string r.bU,.string r.step,.string r.off,.string r.tim,.bool r.bool,.bool r.given,.bool r.on,o,.int .i64 r.card,i,.bool r.without,l]= .agg A:=by rw[h];rfl
theorem Vz (R2:aM WA w.heap.size 46 A) (An:Below w.heap.size w WA) (SK:WA.heap.size=w.heap.size+1) (ZN:aM W1 WA.heap.size 46 B) (oc:Below WA.heap.size WA W1):SB w A B W1:=
 ⟨An.trans (oc.mono An.size),R2.below oc R2.lt,by rw[←SK];exact ZN⟩
def Bq (w:World) (A B:Array Value) (W:World) (d:Bool) (e:Ending) (W':World):Prop:=e= .returned (.bool d)∧SB w A B W'∧Below W.heap.size W W'
