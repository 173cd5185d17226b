import Derived.Test.YtcdoilkjmjbgmaaGreatDoorR26
import Derived.Test.YtcdoilkjmjbgmaaGreatDoorR27
import Derived.Test.YtcdoilkjmjbgmaaGreatDoorR28
import Derived.Test.YtcdoilkjmjbgmaaGreatDoorR14
import Derived.Test.YtcdoilkjmjbgmaaGreatDoorR34
import Derived.Test.YtcdoilkjmjbgmaaGreatDoorR24
import Derived.Test.YtcdoilkjmjbgmaaGreatDoorR29
/- Part of the proof of YtcdoilkjmjbgmaaGreatDoorCardR: TrV TrW. -/
set_option maxRecDepth 100000
set_option maxHeartbeats 4000000
set_option linter.unusedVariables false
set_option linter.unusedSimpArgs false
namespace Go.Proofs.YtcdoilkjmjbgmaaGreatDoor
open Go.RowKit
open Tryz
variable {b:Nat} {w W:World} {r:PR} {m o i l:Value} {s:ByteArray} {k n:Int} {A:Array Value}
theorem K9 (h:bw b w r m o i l):Calls prog 77 #[jB r m o i l] w (qD w (gz r)):=by
 have k:=h.lo (dQ _);obtain⟨⟨_,_,rfl,_⟩,⟨_,_,rfl,_⟩,⟨_,_,rfl,_⟩,⟨_,_,rfl,_⟩⟩:=h;obtain⟨kind,kids,op,text,ms,bV,step,off,tim,bool,given,on,mls,card,inc,without,labels⟩:=r;by_cases h1:kind=1
 ·subst h1;exact Vx w kids op text bV step off tim bool given on without card ms mls inc labels _ _ _ _ _ _ _ _ _ _ _ _ k
 by_cases h2:kind=2
 ·subst h2;exact Vy w kids op text bV step off tim bool given on without card ms mls inc labels _ _ _ _ _ _ _ _ _ _ _ _ k
 by_cases h3:kind=3
 ·subst h3;exact Vz w kids op text bV step off tim bool given on without card ms mls inc labels _ _ _ _ _ _ _ _ _ _ _ _ k
 by_cases h4:kind=4
 ·subst h4;exact VA w kids op text bV step off tim bool given on without card ms mls inc labels _ _ _ _ _ _ _ _ _ _ _ _ k
 by_cases h5:kind=5
 ·subst h5;exact VB w kids op text bV step off tim bool given on without card ms mls inc labels _ _ _ _ _ _ _ _ _ _ _ _ k
 by_cases h6:kind=6
 ·subst h6;exact VC w kids op text bV step off tim bool given on without card ms mls inc labels _ _ _ _ _ _ _ _ _ _ _ _ k
 by_cases h7:kind=7
 ·subst h7;exact VE w kids op text bV step off tim bool given on without card ms mls inc labels _ _ _ _ _ _ _ _ _ _ _ _ k
 by_cases h8:kind=8
 ·subst h8;exact VD w kids op text bV step off tim bool given on without card ms mls inc labels _ _ _ _ _ _ _ _ _ _ _ _ k
 by_cases h9:kind=9
 ·subst h9;exact VF w kids op text bV step off tim bool given on without card ms mls inc labels _ _ _ _ _ _ _ _ _ _ _ _ k
 exact U1 w kind h1 h2 h3 h4 h5 h6 h7 h8 h9 kids op text bV step off tim bool given on without card ms mls inc labels _ _ _ _ _ _ _ _ _ _ _ _ k
theorem VH (r:PR):(gz r).ms.length≤r.ms.length∧(gz r).mls.length≤r.mls.length∧(gz r).inc.length≤r.inc.length∧(gz r).labels.length≤r.labels.length:=by
 obtain⟨kind,kids,op,text,ms,bV,step,off,tim,bool,given,on,mls,card,inc,without,labels⟩:=r;by_cases h1:kind=1
 ·subst h1;simp[gz]
 by_cases h2:kind=2
 ·subst h2;simp[gz]
 by_cases h3:kind=3
 ·subst h3;simp[gz]
 by_cases h4:kind=4
 ·subst h4;simp[gz]
 by_cases h5:kind=5
 ·subst h5;simp[gz]
 by_cases h6:kind=6
 ·subst h6;simp[gz]
 by_cases h7:kind=7
 ·subst h7;simp[gz]
 by_cases h8:kind=8
 ·subst h8;simp[gz]
 by_cases h9:kind=9
 ·subst h9;simp[gz]
 simp[gz,h1,h2,h3,h4,h5,h6,h7,h8,h9]
theorem gD.un (h:gD r):gD (gz r):=by
 obtain⟨a,b,c,d⟩:=VH r;exact⟨bP a h.1,bP b h.2.1,bP c h.2.2.1,bP d h.2.2.2⟩
theorem NG:dB s=true↔s=eS:=by
 unfold dB eS;constructor
 ·intro h;rw[List.isEmpty_iff]at h;rw[←mk_data s,h]
 ·rintro rfl;rfl
def qE (k:Int):Prop:=k=1∨k=2∨k=3∨k=4∨k=5∨k=6∨k=7∨k=8∨k=9
theorem qh (h:du k n=true):qE k:=by
 unfold du at h;unfold qE
 repeat' split at h
 all_goals first|omega|simp at h
theorem CX (h:qE r.kind):lY r=true↔gz r=zr r.kind 0:=by
 obtain⟨kind,kids,op,text,ms,bV,step,off,tim,bool,given,on,mls,card,inc,without,labels⟩:=r;simp only at h;unfold lY gz zr L9 rO Gi zb pV pW fI jJ;rcases h with rfl|rfl|rfl|rfl|rfl|rfl|rfl|rfl|rfl
 all_goals simp[NG,List.isEmpty_iff,and_assoc]
def OB (w:World) (A:Array Value) (W:World):Prop:=Below w.heap.size w W∧aK W w.heap.size 46 A
theorem OB.below {w:World} {A:Array Value} {W W':World} (h:OB w A W) (hb:Below W.heap.size W W'):OB w A W':=⟨h.1.trans (hb.mono h.1.size),h.2.below hb h.2.lt⟩
theorem OB.drew {w:World} {A:Array Value} {W:World} (h:OB w A W):OB w A W.drew:=⟨h.1.drew,h.2.drew⟩
theorem Uc (w:World) (A:Array Value):OB w A (w.alloc (.cells A 46)):=⟨(aV _ w).alloc (aS _) _,aK.new _ _ _⟩
def UnX (w:World) (A:Array Value) (r:PR) (e:Ending) (W':World):Prop:= ∃m o i l,e= .returned (jB (gz r) m o i l)∧bw 0 W' (gz r) m o i l∧OB w A W'
theorem af3 (h:bw 0 w r m o i l) (hs:OB w A W):Calls prog 77 #[jB r m o i l] W (UnX w A r):=
 (K9 (h.below hs.1)).mono fun e W' ⟨m',o',i',l',h1,h2,h3⟩=>⟨m',o',i',l',h1,h2,hs.below h3⟩
def SaX (w:World) (A:Array Value) (p:Prop) (e:Ending) (W':World):Prop:= ∃b:Bool,e= .returned (.bool b)∧(b=true↔p)∧OB w A W'
theorem ag1 (w:World) (k:Int):bw 0 w (zr k 0) (.slice none 0 0) (.slice none 0 0) (.slice none 0 0) (.slice none 0 0):=⟨yf _ _,fW _ _,fW _ _,fW _ _⟩
theorem af4 (h:bw 0 W (gz r) m o i l) (hl:gD (gz r)) (hs:OB w A W):
  Calls prog 47 #[jB (gz r) m o i l,jB (zr k 0) (.slice none 0 0) (.slice none 0 0) (.slice none 0 0) (.slice none 0 0)] W (SaX w A (gz r=zr k 0)):=
 (Rz h (ag1 W k) hl ⟨by simp[zr],by simp[zr],by simp[zr],by simp[zr]⟩).mono fun e W' ⟨b,h1,h2,h3⟩=>⟨b,h1,h2,hs.below h3⟩
theorem NH (w:World) (r:PR) (am ao ai al:Option Addr) (nm cm no co ni ci nl cl:Nat) (h:bw 0 w r (.slice am nm cm) (.slice ao no co) (.slice ai ni ci) (.slice al nl cl)) (hl:gD r) (hk:du r.kind r.kids=false):
  Calls prog 60 #[.agg #[.int .i64 r.kind,.int .i64 r.kids,.string r.op,.string r.text,.slice am nm cm,.string r.bV,.string r.step,.string r.off,.string r.tim,.bool r.bool,.bool r.given,.bool r.on,.slice ao no co,.int .i64 r.card,.slice ai ni ci,.bool r.without,.slice al nl cl]] w (aG w false):=by
 have HK:=aa hk;clear h hk;have HB:=aa fun X n=>cr ((aV _ w).alloc (aS _) X) n
 go_enter func60,ntmps60;go_upto_region 1 with(fail)
 go_quiet ((go_at_call 76;exact Calls.quiet_of_same ((qq _ _ _).mono fun _ _ ⟨h1,h2⟩=>⟨by rw[h1,HK.out],h2.symm⟩)));go_wp2_with fail;go_ret;exact⟨rfl,HB _ _⟩
