import Derived.Test.YtcdoilkjmjbgmaaGreatDoorW26
import Derived.Test.YtcdoilkjmjbgmaaGreatDoorW13
import Derived.Test.YtcdoilkjmjbgmaaGreatDoorW27
import Derived.Test.YtcdoilkjmjbgmaaGreatDoorW33
import Derived.Test.YtcdoilkjmjbgmaaGreatDoorW24
import Derived.Test.YtcdoilkjmjbgmaaGreatDoorW28
/- Part of the proof of YtcdoilkjmjbgmaaGreatDoorCardX: TrV TrW. -/
set_option maxRecDepth 100000
set_option maxHeartbeats 4000000
set_option linter.unusedVariables false
set_option linter.unusedSimpArgs false
namespace Go.Proofs.YtcdoilkjmjbgmaaGreatDoor
open Go.RowKit
open Go.Proofs.Tryz
variable {b:Nat} {w W:World} {r:PR} {m o i l:Value} {s:ByteArray} {k n:Int} {A:Array Value}
theorem KO (h:bw b w r m o i l):Calls prog 77 #[jP r m o i l] w (qK w (fZ r)):=by
 have k:=h.lo (aT _);obtain⟨⟨_,_,rfl,_⟩,⟨_,_,rfl,_⟩,⟨_,_,rfl,_⟩,⟨_,_,rfl,_⟩⟩:=h;obtain⟨kind,kids,op,text,ms,bQ,step,off,tim,bool,given,on,mls,card,inc,without,labels⟩:=r;by_cases h1:kind=1
 ·subst h1;exact VJ w kids op text bQ step off tim bool given on without card ms mls inc labels _ _ _ _ _ _ _ _ _ _ _ _ k
 by_cases h2:kind=2
 ·subst h2;exact VK w kids op text bQ step off tim bool given on without card ms mls inc labels _ _ _ _ _ _ _ _ _ _ _ _ k
 by_cases h3:kind=3
 ·subst h3;exact VL w kids op text bQ step off tim bool given on without card ms mls inc labels _ _ _ _ _ _ _ _ _ _ _ _ k
 by_cases h4:kind=4
 ·subst h4;exact Va w kids op text bQ step off tim bool given on without card ms mls inc labels _ _ _ _ _ _ _ _ _ _ _ _ k
 by_cases h5:kind=5
 ·subst h5;exact Vb w kids op text bQ step off tim bool given on without card ms mls inc labels _ _ _ _ _ _ _ _ _ _ _ _ k
 by_cases h6:kind=6
 ·subst h6;exact Vc w kids op text bQ step off tim bool given on without card ms mls inc labels _ _ _ _ _ _ _ _ _ _ _ _ k
 by_cases h7:kind=7
 ·subst h7;exact VN w kids op text bQ step off tim bool given on without card ms mls inc labels _ _ _ _ _ _ _ _ _ _ _ _ k
 by_cases h8:kind=8
 ·subst h8;exact VM w kids op text bQ step off tim bool given on without card ms mls inc labels _ _ _ _ _ _ _ _ _ _ _ _ k
 by_cases h9:kind=9
 ·subst h9;exact VO w kids op text bQ step off tim bool given on without card ms mls inc labels _ _ _ _ _ _ _ _ _ _ _ _ k
 exact Vd w kind h1 h2 h3 h4 h5 h6 h7 h8 h9 kids op text bQ step off tim bool given on without card ms mls inc labels _ _ _ _ _ _ _ _ _ _ _ _ k
theorem VQ (r:PR):(fZ r).ms.length≤r.ms.length∧(fZ r).mls.length≤r.mls.length∧(fZ r).inc.length≤r.inc.length∧(fZ r).labels.length≤r.labels.length:=by
 obtain⟨kind,kids,op,text,ms,bQ,step,off,tim,bool,given,on,mls,card,inc,without,labels⟩:=r;by_cases h1:kind=1
 ·subst h1;simp[fZ]
 by_cases h2:kind=2
 ·subst h2;simp[fZ]
 by_cases h3:kind=3
 ·subst h3;simp[fZ]
 by_cases h4:kind=4
 ·subst h4;simp[fZ]
 by_cases h5:kind=5
 ·subst h5;simp[fZ]
 by_cases h6:kind=6
 ·subst h6;simp[fZ]
 by_cases h7:kind=7
 ·subst h7;simp[fZ]
 by_cases h8:kind=8
 ·subst h8;simp[fZ]
 by_cases h9:kind=9
 ·subst h9;simp[fZ]
 simp[fZ,h1,h2,h3,h4,h5,h6,h7,h8,h9]
theorem iO.un (h:iO r):iO (fZ r):=by
 obtain⟨a,b,c,d⟩:=VQ r;exact⟨bn a h.1,bn b h.2.1,bn c h.2.2.1,bn d h.2.2.2⟩
theorem Nt:dy s=true↔s=eS:=by
 unfold dy eS;constructor
 ·intro h;rw[List.isEmpty_iff]at h;rw[←mk_data s,h]
 ·rintro rfl;rfl
def qL (k:Int):Prop:=k=1∨k=2∨k=3∨k=4∨k=5∨k=6∨k=7∨k=8∨k=9
theorem qq (h:de k n=true):qL k:=by
 unfold de at h;unfold qL
 repeat' split at h
 all_goals first|omega|simp at h
theorem CE (h:qL r.kind):lP r=true↔fZ r=zr r.kind 0:=by
 obtain⟨kind,kids,op,text,ms,bQ,step,off,tim,bool,given,on,mls,card,inc,without,labels⟩:=r;simp only at h;unfold lP fZ zr LQ rI F6 yO qe qf fA jC;rcases h with rfl|rfl|rfl|rfl|rfl|rfl|rfl|rfl|rfl
 all_goals simp[Nt,List.isEmpty_iff,and_assoc]
def OB (w:World) (A:Array Value) (W:World):Prop:=Below w.heap.size w W∧aH W w.heap.size 46 A
theorem OB.below {w:World} {A:Array Value} {W W':World} (h:OB w A W) (hb:Below W.heap.size W W'):OB w A W':=⟨h.1.trans (hb.mono h.1.size),h.2.below hb h.2.lt⟩
theorem OB.drew {w:World} {A:Array Value} {W:World} (h:OB w A W):OB w A W.drew:=⟨h.1.drew,h.2.drew⟩
theorem Uj (w:World) (A:Array Value):OB w A (w.alloc (.cells A 46)):=⟨(aS _ w).alloc (aP _) _,aH.new _ _ _⟩
def UnX (w:World) (A:Array Value) (r:PR) (e:Ending) (W':World):Prop:= ∃m o i l,e= .returned (jP (fZ r) m o i l)∧bw 0 W' (fZ r) m o i l∧OB w A W'
theorem afT (h:bw 0 w r m o i l) (hs:OB w A W):Calls prog 77 #[jP r m o i l] W (UnX w A r):=
 (KO (h.below hs.1)).mono fun e W' ⟨m',o',i',l',h1,h2,h3⟩=>⟨m',o',i',l',h1,h2,hs.below h3⟩
def SaX (w:World) (A:Array Value) (p:Prop) (e:Ending) (W':World):Prop:= ∃b:Bool,e= .returned (.bool b)∧(b=true↔p)∧OB w A W'
theorem agU (w:World) (k:Int):bw 0 w (zr k 0) (.slice none 0 0) (.slice none 0 0) (.slice none 0 0) (.slice none 0 0):=⟨xU _ _,jk _ _,jk _ _,jk _ _⟩
theorem afU (h:bw 0 W (fZ r) m o i l) (hl:iO (fZ r)) (hs:OB w A W):
  Calls prog 47 #[jP (fZ r) m o i l,jP (zr k 0) (.slice none 0 0) (.slice none 0 0) (.slice none 0 0) (.slice none 0 0)] W (SaX w A (fZ r=zr k 0)):=
 (Rq h (agU W k) hl ⟨by simp[zr],by simp[zr],by simp[zr],by simp[zr]⟩).mono fun e W' ⟨b,h1,h2,h3⟩=>⟨b,h1,h2,hs.below h3⟩
theorem Nu (w:World) (r:PR) (am ao ai al:Option Addr) (nm cm no co ni ci nl cl:Nat) (h:bw 0 w r (.slice am nm cm) (.slice ao no co) (.slice ai ni ci) (.slice al nl cl)) (hl:iO r) (hk:de r.kind r.kids=false):
  Calls prog 60 #[.agg #[.int .i64 r.kind,.int .i64 r.kids,.string r.op,.string r.text,.slice am nm cm,.string r.bQ,.string r.step,.string r.off,.string r.tim,.bool r.bool,.bool r.given,.bool r.on,.slice ao no co,.int .i64 r.card,.slice ai ni ci,.bool r.without,.slice al nl cl]] w (aC w false):=by
 have HK:=aa hk;clear h hk;have HB:=aa fun X n=>bS ((aS _ w).alloc (aP _) X) n
 go_enter func60,ntmps60;go_upto_region 1 with(fail)
 go_quiet ((go_at_call 76;exact Calls.quiet_of_same ((qA _ _ _).mono fun _ _ ⟨h1,h2⟩=>⟨by rw[h1,HK.out],h2.symm⟩)));go_wp2_with fail;go_ret;exact⟨rfl,HB _ _⟩
