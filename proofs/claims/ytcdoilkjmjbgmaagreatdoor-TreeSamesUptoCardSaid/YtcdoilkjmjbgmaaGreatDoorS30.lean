import Derived.Test.YtcdoilkjmjbgmaaGreatDoorS26
import Derived.Test.YtcdoilkjmjbgmaaGreatDoorS27
import Derived.Test.YtcdoilkjmjbgmaaGreatDoorS28
import Derived.Test.YtcdoilkjmjbgmaaGreatDoorS29
import Derived.Test.YtcdoilkjmjbgmaaGreatDoorS24
import Derived.Test.YtcdoilkjmjbgmaaGreatDoorS14
import Derived.Test.YtcdoilkjmjbgmaaGreatDoorS25
import Derived.Test.YtcdoilkjmjbgmaaGreatDoorS23
/- Part of the proof of YtcdoilkjmjbgmaaGreatDoorCardY: TrU TrV TrW TrZ TrZa TrZb TrZc TrZd TrZe TrZf. -/
set_option maxRecDepth 100000
set_option maxHeartbeats 4000000
set_option linter.unusedVariables false
set_option linter.unusedSimpArgs false
namespace Go.Proofs.YtcdoilkjmjbgmaaGreatDoor
open Go.RowKit
open Go.Proofs.Tryz
variable {b:Nat} {w W:World} {v m o i l:Value} {r:PR} {ks:List Value} {s:ByteArray} {k n:Int} {A:Array Value}
def gp (r:PR):Prop:=r.ms.length≤1099511627776∧r.mls.length≤1099511627776∧r.inc.length≤1099511627776∧r.labels.length≤1099511627776
theorem No (h:ba b w v r ks) (hl:gp r):Calls prog 36 #[v] w (gJ w r):=by
 cases h with
 |number g hb hg t c0=>exact G5 g hb hg t c0
 |text g hb hg t c0=>exact MU g hb hg t c0
 |selector g hb hg t off tim vm ms hm c0 c1 c2 c3=>
  obtain⟨ao,c,rfl,_⟩:=id hm;exact Dc g hb hg t off tim _ _ _ ms hl.1 hm c0 c1 c2 c3
 |range g hb hg d p c0 c1=>exact Kq g hb hg d p c0 c1
 |subquery g hb hg d s off tim t x c0 c1 c2 c3 c4=>exact Db g hb hg d s off tim t x c0 c1 c2 c3 c4
 |unary g hb hg o t x c0 c1=>exact Kr g hb hg o t x c0 c1
 |binary g hb hg o t u x y bo gi on vl vi ls inc card ZS hi c0 c1 c2 c3 c4 c5 c6 c7 c8=>
  obtain⟨ao,c,rfl,_⟩:=id ZS;obtain⟨ai,ci,rfl,_⟩:=id hi;exact G6 g hb hg o t u x y bo gi on _ _ _ _ _ _ ls inc card hl.2.1 hl.2.2.1 ZS hi c0 c1 c2 c3 c4 c5 c6 c7 c8
 |call g hb hg o va ks hk c0 c1=>exact Nl g hb hg o va ks hk c0 c1
 |aggr g hb hg o t x wo vl ls ZS c0 c1 c2 c3 c4=>
  obtain⟨ao,c,rfl,_⟩:=id ZS;exact Nn g hb hg o t x wo _ _ _ ls hl.2.2.2 ZS c0 c1 c2 c3 c4
 |aggr2 g hb hg o t u x y wo vl ls ZS c0 c1 c2 c3 c4=>
  obtain⟨ao,c,rfl,_⟩:=id ZS;exact Ks g hb hg o t u x y wo _ _ _ ls hl.2.2.2 ZS c0 c1 c2 c3 c4
theorem Kt (h:bA b w r m o i l):Calls prog 77 #[jM r m o i l] w (qo w (gd r)):=by
 have k:=h.lo (aV _);obtain⟨⟨_,_,rfl,_⟩,⟨_,_,rfl,_⟩,⟨_,_,rfl,_⟩,⟨_,_,rfl,_⟩⟩:=h;obtain⟨kind,kids,op,text,ms,bU,step,off,tim,bool,given,on,mls,card,inc,without,labels⟩:=r;by_cases h1:kind=1
 ·subst h1;exact VA w kids op text bU step off tim bool given on without card ms mls inc labels _ _ _ _ _ _ _ _ _ _ _ _ k
 by_cases h2:kind=2
 ·subst h2;exact VB w kids op text bU step off tim bool given on without card ms mls inc labels _ _ _ _ _ _ _ _ _ _ _ _ k
 by_cases h3:kind=3
 ·subst h3;exact VC w kids op text bU step off tim bool given on without card ms mls inc labels _ _ _ _ _ _ _ _ _ _ _ _ k
 by_cases h4:kind=4
 ·subst h4;exact U1 w kids op text bU step off tim bool given on without card ms mls inc labels _ _ _ _ _ _ _ _ _ _ _ _ k
 by_cases h5:kind=5
 ·subst h5;exact U2 w kids op text bU step off tim bool given on without card ms mls inc labels _ _ _ _ _ _ _ _ _ _ _ _ k
 by_cases h6:kind=6
 ·subst h6;exact U3 w kids op text bU step off tim bool given on without card ms mls inc labels _ _ _ _ _ _ _ _ _ _ _ _ k
 by_cases h7:kind=7
 ·subst h7;exact VE w kids op text bU step off tim bool given on without card ms mls inc labels _ _ _ _ _ _ _ _ _ _ _ _ k
 by_cases h8:kind=8
 ·subst h8;exact VD w kids op text bU step off tim bool given on without card ms mls inc labels _ _ _ _ _ _ _ _ _ _ _ _ k
 by_cases h9:kind=9
 ·subst h9;exact VF w kids op text bU step off tim bool given on without card ms mls inc labels _ _ _ _ _ _ _ _ _ _ _ _ k
 exact U4 w kind h1 h2 h3 h4 h5 h6 h7 h8 h9 kids op text bU step off tim bool given on without card ms mls inc labels _ _ _ _ _ _ _ _ _ _ _ _ k
theorem VG (r:PR):(gd r).ms.length≤r.ms.length∧(gd r).mls.length≤r.mls.length∧(gd r).inc.length≤r.inc.length∧(gd r).labels.length≤r.labels.length:=by
 obtain⟨kind,kids,op,text,ms,bU,step,off,tim,bool,given,on,mls,card,inc,without,labels⟩:=r;by_cases h1:kind=1
 ·subst h1;simp[gd]
 by_cases h2:kind=2
 ·subst h2;simp[gd]
 by_cases h3:kind=3
 ·subst h3;simp[gd]
 by_cases h4:kind=4
 ·subst h4;simp[gd]
 by_cases h5:kind=5
 ·subst h5;simp[gd]
 by_cases h6:kind=6
 ·subst h6;simp[gd]
 by_cases h7:kind=7
 ·subst h7;simp[gd]
 by_cases h8:kind=8
 ·subst h8;simp[gd]
 by_cases h9:kind=9
 ·subst h9;simp[gd]
 simp[gd,h1,h2,h3,h4,h5,h6,h7,h8,h9]
theorem gp.un (h:gp r):gp (gd r):=by
 obtain⟨a,b,c,d⟩:=VG r;exact⟨bR a h.1,bR b h.2.1,bR c h.2.2.1,bR d h.2.2.2⟩
theorem Np:dA s=true↔s=eS:=by
 unfold dA eS;constructor
 ·intro h;rw[List.isEmpty_iff]at h;rw[←mk_data s,h]
 ·rintro rfl;rfl
def qp (k:Int):Prop:=k=1∨k=2∨k=3∨k=4∨k=5∨k=6∨k=7∨k=8∨k=9
theorem pT (h:du k n=true):qp k:=by
 unfold du at h;unfold qp
 repeat' split at h
 all_goals first|omega|simp at h
theorem Cy (h:qp r.kind):lP r=true↔gd r=zr r.kind 0:=by
 obtain⟨kind,kids,op,text,ms,bU,step,off,tim,bool,given,on,mls,card,inc,without,labels⟩:=r;simp only at h;unfold lP gd zr LI ru FV yJ pH pI fC jB;rcases h with rfl|rfl|rfl|rfl|rfl|rfl|rfl|rfl|rfl
 all_goals simp[Np,List.isEmpty_iff,and_assoc]
def OB (w:World) (A:Array Value) (W:World):Prop:=Below w.heap.size w W∧aM W w.heap.size 46 A
theorem OB.below {w:World} {A:Array Value} {W W':World} (h:OB w A W) (hb:Below W.heap.size W W'):OB w A W':=⟨h.1.trans (hb.mono h.1.size),h.2.below hb h.2.lt⟩
theorem OB.drew {w:World} {A:Array Value} {W:World} (h:OB w A W):OB w A W.drew:=⟨h.1.drew,h.2.drew⟩
theorem T3 (w:World) (A:Array Value):OB w A (w.alloc (.cells A 46)):=⟨(aU _ w).alloc (aS _) _,aM.new _ _ _⟩
def UnX (w:World) (A:Array Value) (r:PR) (e:Ending) (W':World):Prop:= ∃m o i l,e= .returned (jM (gd r) m o i l)∧bA 0 W' (gd r) m o i l∧OB w A W'
theorem afc (h:bA 0 w r m o i l) (hs:OB w A W):Calls prog 77 #[jM r m o i l] W (UnX w A r):=
 (Kt (h.below hs.1)).mono fun e W' ⟨m',o',i',l',h1,h2,h3⟩=>⟨m',o',i',l',h1,h2,hs.below h3⟩
def SaX (w:World) (A:Array Value) (p:Prop) (e:Ending) (W':World):Prop:= ∃b:Bool,e= .returned (.bool b)∧(b=true↔p)∧OB w A W'
theorem agh (w:World) (k:Int):bA 0 w (zr k 0) (.slice none 0 0) (.slice none 0 0) (.slice none 0 0) (.slice none 0 0):=⟨xL _ _,jc _ _,jc _ _,jc _ _⟩
theorem afd (h:bA 0 W (gd r) m o i l) (hl:gp (gd r)) (hs:OB w A W):
  Calls prog 47 #[jM (gd r) m o i l,jM (zr k 0) (.slice none 0 0) (.slice none 0 0) (.slice none 0 0) (.slice none 0 0)] W (SaX w A (gd r=zr k 0)):=
 (Ff h (agh W k) hl ⟨by simp[zr],by simp[zr],by simp[zr],by simp[zr]⟩).mono fun e W' ⟨b,h1,h2,h3⟩=>⟨b,h1,h2,hs.below h3⟩
theorem Nq (w:World) (r:PR) (am ao ai al:Option Addr) (nm cm no co ni ci nl cl:Nat) (h:bA 0 w r (.slice am nm cm) (.slice ao no co) (.slice ai ni ci) (.slice al nl cl)) (hl:gp r) (hk:du r.kind r.kids=false):
  Calls prog 60 #[.agg #[.int .i64 r.kind,.int .i64 r.kids,.string r.op,.string r.text,.slice am nm cm,.string r.bU,.string r.step,.string r.off,.string r.tim,.bool r.bool,.bool r.given,.bool r.on,.slice ao no co,.int .i64 r.card,.slice ai ni ci,.bool r.without,.slice al nl cl]] w (aF w false):=by
 have HK:=ae hk;clear h hk;have HB:=ae fun X n=>bZ ((aU _ w).alloc (aS _) X) n
 go_enter func60,ntmps60;go_upto_region 1 with(fail)
 go_quiet ((go_at_call 76;exact Calls.quiet_of_same ((pZ _ _ _).mono fun _ _ ⟨h1,h2⟩=>⟨by rw[h1,HK.out],h2.symm⟩)));go_wp2_with fail;go_ret;exact⟨rfl,HB _ _⟩
def iH (B:Nat) (w:World) (r:PR) (ks:List Value) (e:Ending) (w':World):Prop:= ∃v,e= .returned v∧ba B w' v r ks∧Below w.heap.size w w'
theorem Gb (w:World) (A C:Obj):Below w.heap.size w ((w.alloc A).alloc C):=((aU _ w).alloc (aS _) _).alloc (by simp) _
theorem lt2 (w:World) (A C:Obj):w.heap.size+1<((w.alloc A).alloc C).heap.size:=by simp
theorem Ku (w:World) (B:Nat) (hB:B≤w.heap.size) (t:ByteArray) (kv:Value) (am ao ai al:Option Addr) (nm cm no co ni ci nl cl:Nat):
  Calls prog 61 #[.agg #[.int .i64 1,.int .i64 0,.string eS,.string t,.slice am nm cm,.string eS,.string eS,.string eS,.string eS,.bool false,.bool false,.bool false,.slice ao no co,.int .i64 0,.slice ai ni ci,.bool false,.slice al nl cl],kv] w (iH B w {zr 1 0 with text:=t} []):=by
 go_enter func61,ntmps61;go_wp2_with fail;go_ret;exact⟨_,rfl,.number (w.heap.size+1) (by omega) (lt2 _ _ _) t ((ft _ _ _ _).cell 0),Gb _ _ _⟩
theorem Rb (w:World) (B:Nat) (hB:B≤w.heap.size) (t:ByteArray) (kv:Value) (am ao ai al:Option Addr) (nm cm no co ni ci nl cl:Nat):
  Calls prog 61 #[.agg #[.int .i64 2,.int .i64 0,.string eS,.string t,.slice am nm cm,.string eS,.string eS,.string eS,.string eS,.bool false,.bool false,.bool false,.slice ao no co,.int .i64 0,.slice ai ni ci,.bool false,.slice al nl cl],kv] w (iH B w {zr 2 0 with text:=t} []):=by
 go_enter func61,ntmps61;go_wp2_with fail;go_ret;exact⟨_,rfl,.text (w.heap.size+1) (by omega) (lt2 _ _ _) t ((ft _ _ _ _).cell 0),Gb _ _ _⟩
theorem Rc (w:World) (B:Nat) (hB:B≤w.heap.size) (o:ByteArray) (ak:Option Addr) (ck:Nat) (ks:List Value) (hk:pw B w (.slice ak ks.length ck) ks) (am ao ai al:Option Addr) (nm cm no co ni ci nl cl:Nat):
  Calls prog 61 #[.agg #[.int .i64 8,.int .i64 (ks.length:Nat),.string o,.string eS,.slice am nm cm,.string eS,.string eS,.string eS,.string eS,.bool false,.bool false,.bool false,.slice ao no co,.int .i64 0,.slice ai ni ci,.bool false,.slice al nl cl],.slice ak ks.length ck] w (iH B w {zr 8 (ks.length:Nat)with op:=o} ks):=by
 have HK:=ae hk;clear hk;go_enter func61,ntmps61;go_wp2_with fail;go_ret;exact⟨_,rfl,.call (w.heap.size+1) (by omega) (lt2 _ _ _) o _ ks (HK.below (Gb _ _ _)) ((ft _ _ _ _).cell 0) ((ft _ _ _ _).cell 1),Gb _ _ _⟩
theorem DQ (w:World) (B:Nat) (hB:B≤w.heap.size) (t off tim:ByteArray) (ms:List PM) (kv:Value) (am ao ai al:Option Addr) (nm cm no co ni ci nl cl:Nat) (hm:fV 0 w (.slice am nm cm) ms) (hn:ms.length≤1099511627776):
  Calls prog 61 #[.agg #[.int .i64 3,.int .i64 0,.string eS,.string t,.slice am nm cm,.string eS,.string eS,.string off,.string tim,.bool false,.bool false,.bool false,.slice ao no co,.int .i64 0,.slice ai ni ci,.bool false,.slice al nl cl],kv] w (iH B w {zr 3 0 with text:=t,ms:=ms,off:=off,tim:=tim} []):=by
 have HC:Hid (∀W,Below w.heap.size w W→Calls prog 44 #[.agg #[.int .i64 3,.int .i64 0,.string eS,.string t,.slice am nm cm,.string eS,.string eS,.string off,.string tim,.bool false,.bool false,.bool false,.slice ao no co,.int .i64 0,.slice ai ni ci,.bool false,.slice al nl cl]] W (Aw W {zr 3 0 with text:=t,ms:=ms,off:=off,tim:=tim})):=ae fun W hb=>tL (r:={zr 3 0 with text:=t,ms:=ms,off:=off,tim:=tim}) (o:=.slice ao no co) (i:=.slice ai ni ci) (l:=.slice al nl cl) (hm.below hb) hn
 have HB:Hid (∀X,Below w.heap.size w (w.alloc X)):=ae fun X=>(aU _ w).alloc (aS _) X
 clear hm;go_enter func61,ntmps61;go_wp2_with fail;refine(HC.out _ (HB.out _)).mono ?_;rintro e w2 ⟨g,rfl,qM,aQ⟩;have HN:=ae (qM.lo (b':=B) (bR hB (HB.out _).size));have bF:=ae ((HB.out _).trans (aQ.mono (HB.out _).size));clear qM aQ;go_wp2_with fail;go_ret;exact⟨_,rfl,HN.out,bF.out⟩
theorem Nr (w:World) (B:Nat) (hB:B≤w.heap.size) (o:ByteArray) (t:TypeId) (x:Value) (am ao ai al:Option Addr) (nm cm no co ni ci nl cl:Nat) (gk ok ck:Nat) (Lh:B≤gk) (uZ:gk<w.heap.size) (lK:w.cell? ⟨gk,ok,none⟩=some (.iface t x)):
  Calls prog 61 #[.agg #[.int .i64 6,.int .i64 1,.string o,.string eS,.slice am nm cm,.string eS,.string eS,.string eS,.string eS,.bool false,.bool false,.bool false,.slice ao no co,.int .i64 0,.slice ai ni ci,.bool false,.slice al nl cl],.slice (some ⟨gk,ok,none⟩) 1 ck] w (iH B w {zr 6 1 with op:=o} [.iface t x]):=by
 obtain⟨A,hA⟩: ∃A:Array Value,A= #[.int .i64 6,.int .i64 1,.string o,.string eS,.slice am nm cm,.string eS,.string eS,.string eS,.string eS,.bool false,.bool false,.bool false,.slice ao no co,.int .i64 0,.slice ai ni ci,.bool false,.slice al nl cl]:=⟨_,rfl⟩;obtain⟨W1,lX⟩: ∃W1,W1=w.alloc (.cells A 46):=⟨_,rfl⟩;have aY:Below w.heap.size w W1:=by rw[lX];exact(aU _ w).alloc (aS _) _
 have de:aM W1 w.heap.size 46 A:=by rw[lX];exact aM.new _ _ _
 have b2:W1.cell? ⟨w.heap.size,2,none⟩=some (.string o):=(de.cell 2).trans (by rw[hA];rfl);have l0:W1.cell? ⟨gk,ok,none⟩=some (.iface t x):=(aY.cell (p:=⟨gk,_,none⟩) uZ).trans lK;have c2:W1.drew.cell? ⟨w.heap.size,2,none⟩=some (.string o):=(de.cell 2).trans (by rw[hA];rfl);have k0:W1.drew.cell? ⟨gk,ok,none⟩=some (.iface t x):=(aY.cell (p:=⟨gk,_,none⟩) uZ).trans lK;rw[hA]at lX;have FH:=ae lX;have cF:=ae aY;have s1:=de.lt;have s2:gk<W1.heap.size:=iv uZ aY.size;clear lX aY de hA lK;go_enter func61,ntmps61;go_wp2_with fail;rw[←FH.out];go_region_held3 (fun W=>W.cell? ⟨w.heap.size,2,none⟩=some (.string o)∧W.cell? ⟨gk,ok,none⟩=some (.iface t x)) (first|go_keep) (first|fail)
 all_goals
  go_wp2_with fail;go_ret;exact⟨_,rfl,(ba.unary (b:=B) (w:=W1.alloc _) W1.heap.size (bR hB cF.size) ((aM.new W1 _ _).lt) o t x ((aM.new W1 _ _).cell 0) ((aM.new W1 _ _).cell 1)).below (aU _ _).drew,(cF.alloc cF.size _).drew⟩
theorem DR (w:World) (B:Nat) (hB:B≤w.heap.size) (d s off tim:ByteArray) (t:TypeId) (x:Value) (am ao ai al:Option Addr) (nm cm no co ni ci nl cl:Nat) (gk ok ck:Nat) (Lh:B≤gk) (uZ:gk<w.heap.size) (lK:w.cell? ⟨gk,ok,none⟩=some (.iface t x)):
  Calls prog 61 #[.agg #[.int .i64 5,.int .i64 1,.string eS,.string eS,.slice am nm cm,.string d,.string s,.string off,.string tim,.bool false,.bool false,.bool false,.slice ao no co,.int .i64 0,.slice ai ni ci,.bool false,.slice al nl cl],.slice (some ⟨gk,ok,none⟩) 1 ck] w (iH B w {zr 5 1 with bU:=d,step:=s,off:=off,tim:=tim} [.iface t x]):=by
 obtain⟨A,hA⟩: ∃A:Array Value,A= #[.int .i64 5,.int .i64 1,.string eS,.string eS,.slice am nm cm,.string d,.string s,.string off,.string tim,.bool false,.bool false,.bool false,.slice ao no co,.int .i64 0,.slice ai ni ci,.bool false,.slice al nl cl]:=⟨_,rfl⟩;obtain⟨W1,lX⟩: ∃W1,W1=w.alloc (.cells A 46):=⟨_,rfl⟩;have aY:Below w.heap.size w W1:=by rw[lX];exact(aU _ w).alloc (aS _) _
 have de:aM W1 w.heap.size 46 A:=by rw[lX];exact aM.new _ _ _
 have b5:W1.cell? ⟨w.heap.size,5,none⟩=some (.string d):=(de.cell 5).trans (by rw[hA];rfl);have b6:W1.cell? ⟨w.heap.size,6,none⟩=some (.string s):=(de.cell 6).trans (by rw[hA];rfl);have b7:W1.cell? ⟨w.heap.size,7,none⟩=some (.string off):=(de.cell 7).trans (by rw[hA];rfl);have b8:W1.cell? ⟨w.heap.size,8,none⟩=some (.string tim):=(de.cell 8).trans (by rw[hA];rfl);have l0:W1.cell? ⟨gk,ok,none⟩=some (.iface t x):=(aY.cell (p:=⟨gk,_,none⟩) uZ).trans lK;have c5:W1.drew.cell? ⟨w.heap.size,5,none⟩=some (.string d):=(de.cell 5).trans (by rw[hA];rfl);have c6:W1.drew.cell? ⟨w.heap.size,6,none⟩=some (.string s):=(de.cell 6).trans (by rw[hA];rfl);have c7:W1.drew.cell? ⟨w.heap.size,7,none⟩=some (.string off):=(de.cell 7).trans (by rw[hA];rfl);have c8:W1.drew.cell? ⟨w.heap.size,8,none⟩=some (.string tim):=(de.cell 8).trans (by rw[hA];rfl);have k0:W1.drew.cell? ⟨gk,ok,none⟩=some (.iface t x):=(aY.cell (p:=⟨gk,_,none⟩) uZ).trans lK;rw[hA]at lX;have FH:=ae lX;have cF:=ae aY;have s1:=de.lt;have s2:gk<W1.heap.size:=iv uZ aY.size;clear lX aY de hA lK;go_enter func61,ntmps61;go_wp2_with fail;rw[←FH.out];go_region_held3 (fun W=>W.cell? ⟨w.heap.size,5,none⟩=some (.string d)∧W.cell? ⟨w.heap.size,6,none⟩=some (.string s)∧W.cell? ⟨w.heap.size,7,none⟩=some (.string off)∧W.cell? ⟨w.heap.size,8,none⟩=some (.string tim)∧W.cell? ⟨gk,ok,none⟩=some (.iface t x)) (first|go_keep) (first|fail)
 all_goals
  go_wp2_with fail;go_ret;exact⟨_,rfl,(ba.subquery (b:=B) (w:=W1.alloc _) W1.heap.size (bR hB cF.size) ((aM.new W1 _ _).lt) d s off tim t x ((aM.new W1 _ _).cell 0) ((aM.new W1 _ _).cell 1) ((aM.new W1 _ _).cell 2) ((aM.new W1 _ _).cell 3) ((aM.new W1 _ _).cell 4)).below (aU _ _).drew,(cF.alloc cF.size _).drew⟩
theorem Kv (w:World) (B:Nat) (hB:B≤w.heap.size) (o:ByteArray) (t u:TypeId) (x y:Value) (bo gi on:Bool) (card:Int) (ls inc:List ByteArray) (am ao ai al:Option Addr) (nm cm no co ni ci nl cl:Nat) (gk ok ck:Nat) (Lh:B≤gk) (uZ:gk<w.heap.size) (lK:w.cell? ⟨gk,ok,none⟩=some (.iface t x)) (mP:w.cell? ⟨gk,ok+1,none⟩=some (.iface u y)) (hl:cO 0 w (.slice ao no co) ls) (hi:cO 0 w (.slice ai ni ci) inc) (hn:ls.length≤1099511627776) (xd:inc.length≤1099511627776):
  Calls prog 61 #[.agg #[.int .i64 7,.int .i64 2,.string o,.string eS,.slice am nm cm,.string eS,.string eS,.string eS,.string eS,.bool bo,.bool gi,.bool on,.slice ao no co,.int .i64 card,.slice ai ni ci,.bool false,.slice al nl cl],.slice (some ⟨gk,ok,none⟩) 2 ck] w (iH B w {zr 7 2 with op:=o,bool:=bo,given:=gi,on:=on,mls:=ls,card:=card,inc:=inc} [.iface t x,.iface u y]):=by
 obtain⟨A,hA⟩: ∃A:Array Value,A= #[.int .i64 7,.int .i64 2,.string o,.string eS,.slice am nm cm,.string eS,.string eS,.string eS,.string eS,.bool bo,.bool gi,.bool on,.slice ao no co,.int .i64 card,.slice ai ni ci,.bool false,.slice al nl cl]:=⟨_,rfl⟩;obtain⟨W1,lX⟩: ∃W1,W1=w.alloc (.cells A 46):=⟨_,rfl⟩;have aY:Below w.heap.size w W1:=by rw[lX];exact(aU _ w).alloc (aS _) _
 have de:aM W1 w.heap.size 46 A:=by rw[lX];exact aM.new _ _ _
 have Xv:=ae fun(W:World) (hb:Below w.heap.size w W)=>tK gi on card (hl.below hb) (hi.below hb) hn xd
 have b2:W1.cell? ⟨w.heap.size,2,none⟩=some (.string o):=(de.cell 2).trans (by rw[hA];rfl);have b9:W1.cell? ⟨w.heap.size,9,none⟩=some (.bool bo):=(de.cell 9).trans (by rw[hA];rfl);have b10:W1.cell? ⟨w.heap.size,10,none⟩=some (.bool gi):=(de.cell 10).trans (by rw[hA];rfl);have b11:W1.cell? ⟨w.heap.size,11,none⟩=some (.bool on):=(de.cell 11).trans (by rw[hA];rfl);have b12:W1.cell? ⟨w.heap.size,12,none⟩=some (.slice ao no co):=(de.cell 12).trans (by rw[hA];rfl);have b13:W1.cell? ⟨w.heap.size,13,none⟩=some (.int .i64 card):=(de.cell 13).trans (by rw[hA];rfl);have b14:W1.cell? ⟨w.heap.size,14,none⟩=some (.slice ai ni ci):=(de.cell 14).trans (by rw[hA];rfl);have l0:W1.cell? ⟨gk,ok,none⟩=some (.iface t x):=(aY.cell (p:=⟨gk,_,none⟩) uZ).trans lK;have l1:W1.cell? ⟨gk,ok+1,none⟩=some (.iface u y):=(aY.cell (p:=⟨gk,_,none⟩) uZ).trans mP;have c2:W1.drew.cell? ⟨w.heap.size,2,none⟩=some (.string o):=b2;have c9:W1.drew.cell? ⟨w.heap.size,9,none⟩=some (.bool bo):=b9;have PC:W1.drew.cell? ⟨w.heap.size,10,none⟩=some (.bool gi):=b10;have PD:W1.drew.cell? ⟨w.heap.size,11,none⟩=some (.bool on):=b11;have c12:W1.drew.cell? ⟨w.heap.size,12,none⟩=some (.slice ao no co):=b12;have PE:W1.drew.cell? ⟨w.heap.size,13,none⟩=some (.int .i64 card):=b13;have PF:W1.drew.cell? ⟨w.heap.size,14,none⟩=some (.slice ai ni ci):=b14;have k0:W1.drew.cell? ⟨gk,ok,none⟩=some (.iface t x):=l0;have k1:W1.drew.cell? ⟨gk,ok+1,none⟩=some (.iface u y):=l1;rw[hA]at lX;have FH:=ae lX;have cF:=ae aY;have s1:=de.lt;have s2:gk<W1.heap.size:=iv uZ aY.size;have Li:IntKind.i64.wrap 0=0:=by decide
 have eC:IntKind.i64.wrap 1=1:=by decide
 have AD:IntKind.i64.wrap (2-1)=1:=by decide
 have qA:IntKind.i64.wrap (1-1)=0:=by decide
 have Lx:=ae hA;have oY:=ae de;clear lX aY de hA lK mP hl hi;have L0:=ae l0;have L1:=ae l1;go_enter func61,ntmps61;go_wp2_with fail;rw[←FH.out];go_region_held3 (fun W=>W.cell? ⟨w.heap.size,2,none⟩=some (.string o)∧W.cell? ⟨w.heap.size,9,none⟩=some (.bool bo)∧W.cell? ⟨w.heap.size,10,none⟩=some (.bool gi)∧W.cell? ⟨w.heap.size,11,none⟩=some (.bool on)∧W.cell? ⟨w.heap.size,12,none⟩=some (.slice ao no co)∧W.cell? ⟨w.heap.size,13,none⟩=some (.int .i64 card)∧W.cell? ⟨w.heap.size,14,none⟩=some (.slice ai ni ci)∧W.cell? ⟨gk,ok,none⟩=some (.iface t x)∧W.cell? ⟨gk,ok+1,none⟩=some (.iface u y)) (first|go_keep) (first|(go_at_call 64;(with_reducible refine(Xv.out _ cF.out.drew).mono ?_);rintro e WM ⟨o2,i2,rfl,h1,h2,_,hb⟩;have p2:WM.cell? ⟨w.heap.size,2,none⟩=some (.string o):=(hb.cell (p:=⟨w.heap.size,2,none⟩) oY.lt).trans ((oY.cell 2).trans (by rw[Lx.out];rfl));have p9:WM.cell? ⟨w.heap.size,9,none⟩=some (.bool bo):=(hb.cell (p:=⟨w.heap.size,9,none⟩) oY.lt).trans ((oY.cell 9).trans (by rw[Lx.out];rfl));have p10:WM.cell? ⟨w.heap.size,10,none⟩=some (.bool gi):=(hb.cell (p:=⟨w.heap.size,10,none⟩) oY.lt).trans ((oY.cell 10).trans (by rw[Lx.out];rfl));have p11:WM.cell? ⟨w.heap.size,11,none⟩=some (.bool on):=(hb.cell (p:=⟨w.heap.size,11,none⟩) oY.lt).trans ((oY.cell 11).trans (by rw[Lx.out];rfl));have p12:WM.cell? ⟨w.heap.size,12,none⟩=some (.slice ao no co):=(hb.cell (p:=⟨w.heap.size,12,none⟩) oY.lt).trans ((oY.cell 12).trans (by rw[Lx.out];rfl));have p13:WM.cell? ⟨w.heap.size,13,none⟩=some (.int .i64 card):=(hb.cell (p:=⟨w.heap.size,13,none⟩) oY.lt).trans ((oY.cell 13).trans (by rw[Lx.out];rfl));have p14:WM.cell? ⟨w.heap.size,14,none⟩=some (.slice ai ni ci):=(hb.cell (p:=⟨w.heap.size,14,none⟩) oY.lt).trans ((oY.cell 14).trans (by rw[Lx.out];rfl));have r0:WM.cell? ⟨gk,ok,none⟩=some (.iface t x):=(hb.cell (p:=⟨gk,_,none⟩) s2).trans L0;have r1:WM.cell? ⟨gk,ok+1,none⟩=some (.iface u y):=(hb.cell (p:=⟨gk,_,none⟩) s2).trans L1;have t1:w.heap.size<WM.heap.size:=iv s1 hb.size;have t2:gk<WM.heap.size:=iv s2 hb.size;have Lg:=ae (cF.drew.trans (hb.mono cF.size));obtain⟨xo,yo,zo,rfl⟩:=df h1;obtain⟨xi,yi,zi,rfl⟩:=df h2;have HO:=ae h1;have HI:=ae h2;simp only[xz];clear h1 h2 hb))
 all_goals
  go_wp2_with fail;go_ret;have hle:=cF.size;exact⟨_,rfl,.binary WM.heap.size (bR hB Lg.size) ((aM.new WM _ _).lt) o t u x y bo gi on _ _ ls inc card (((cO.jt HO).lo (bR hB (by simpa using hle))).below ((aU _ WM).alloc (aS _) _)) (((cO.jt HI).lo (bR hB (by simpa using hle))).below ((aU _ WM).alloc (aS _) _)) ((aM.new WM _ _).cell 0) ((aM.new WM _ _).cell 1) ((aM.new WM _ _).cell 2) ((aM.new WM _ _).cell 3) ((aM.new WM _ _).cell 4) ((aM.new WM _ _).cell 5) ((aM.new WM _ _).cell 6) ((aM.new WM _ _).cell 7) ((aM.new WM _ _).cell 8),Lg.alloc Lg.size _⟩
theorem Rd (w:World) (B:Nat) (hB:B≤w.heap.size) (o:ByteArray) (t:TypeId) (x:Value) (wo:Bool) (ls:List ByteArray) (am ao ai al:Option Addr) (nm cm no co ni ci nl cl:Nat) (gk ok ck:Nat) (Lh:B≤gk) (uZ:gk<w.heap.size) (lK:w.cell? ⟨gk,ok,none⟩=some (.iface t x)) (hl:cO 0 w (.slice al nl cl) ls) (hn:ls.length≤1099511627776):
  Calls prog 61 #[.agg #[.int .i64 9,.int .i64 1,.string o,.string eS,.slice am nm cm,.string eS,.string eS,.string eS,.string eS,.bool false,.bool false,.bool false,.slice ao no co,.int .i64 0,.slice ai ni ci,.bool wo,.slice al nl cl],.slice (some ⟨gk,ok,none⟩) 1 ck] w (iH B w {zr 9 1 with op:=o,without:=wo,labels:=ls} [.iface t x]):=by
 obtain⟨A,hA⟩: ∃A:Array Value,A= #[.int .i64 9,.int .i64 1,.string o,.string eS,.slice am nm cm,.string eS,.string eS,.string eS,.string eS,.bool false,.bool false,.bool false,.slice ao no co,.int .i64 0,.slice ai ni ci,.bool wo,.slice al nl cl]:=⟨_,rfl⟩;obtain⟨W1,lX⟩: ∃W1,W1=w.alloc (.cells A 46):=⟨_,rfl⟩;have aY:Below w.heap.size w W1:=by rw[lX];exact(aU _ w).alloc (aS _) _
 have de:aM W1 w.heap.size 46 A:=by rw[lX];exact aM.new _ _ _
 have Xv:=ae fun(W:World) (hb:Below w.heap.size w W)=>sH (hl.below hb) hn
 have b2:W1.cell? ⟨w.heap.size,2,none⟩=some (.string o):=(de.cell 2).trans (by rw[hA];rfl);have b15:W1.cell? ⟨w.heap.size,15,none⟩=some (.bool wo):=(de.cell 15).trans (by rw[hA];rfl);have b16:W1.cell? ⟨w.heap.size,16,none⟩=some (.slice al nl cl):=(de.cell 16).trans (by rw[hA];rfl);have l0:W1.cell? ⟨gk,ok,none⟩=some (.iface t x):=(aY.cell (p:=⟨gk,_,none⟩) uZ).trans lK;have c2:W1.drew.cell? ⟨w.heap.size,2,none⟩=some (.string o):=b2;have NY:W1.drew.cell? ⟨w.heap.size,15,none⟩=some (.bool wo):=b15;have NZ:W1.drew.cell? ⟨w.heap.size,16,none⟩=some (.slice al nl cl):=b16;have k0:W1.drew.cell? ⟨gk,ok,none⟩=some (.iface t x):=l0;rw[hA]at lX;have FH:=ae lX;have cF:=ae aY;have s1:=de.lt;have s2:gk<W1.heap.size:=iv uZ aY.size;have Li:IntKind.i64.wrap 0=0:=by decide
 have eC:IntKind.i64.wrap 1=1:=by decide
 have AD:IntKind.i64.wrap (2-1)=1:=by decide
 have qA:IntKind.i64.wrap (1-1)=0:=by decide
 have Lx:=ae hA;have oY:=ae de;clear lX aY de hA lK hl;have L0:=ae l0;go_enter func61,ntmps61;go_wp2_with fail;rw[←FH.out];go_region_held3 (fun W=>W.cell? ⟨w.heap.size,2,none⟩=some (.string o)∧W.cell? ⟨w.heap.size,15,none⟩=some (.bool wo)∧W.cell? ⟨w.heap.size,16,none⟩=some (.slice al nl cl)∧W.cell? ⟨gk,ok,none⟩=some (.iface t x)) (first|go_keep) (first|(go_at_call 65;(with_reducible refine(Xv.out _ cF.out.drew).mono ?_);rintro e WM ⟨o2,rfl,h1,hb⟩;have p2:WM.cell? ⟨w.heap.size,2,none⟩=some (.string o):=(hb.cell (p:=⟨w.heap.size,2,none⟩) oY.lt).trans ((oY.cell 2).trans (by rw[Lx.out];rfl));have p15:WM.cell? ⟨w.heap.size,15,none⟩=some (.bool wo):=(hb.cell (p:=⟨w.heap.size,15,none⟩) oY.lt).trans ((oY.cell 15).trans (by rw[Lx.out];rfl));have p16:WM.cell? ⟨w.heap.size,16,none⟩=some (.slice al nl cl):=(hb.cell (p:=⟨w.heap.size,16,none⟩) oY.lt).trans ((oY.cell 16).trans (by rw[Lx.out];rfl));have r0:WM.cell? ⟨gk,ok,none⟩=some (.iface t x):=(hb.cell (p:=⟨gk,_,none⟩) s2).trans L0;have t1:w.heap.size<WM.heap.size:=iv s1 hb.size;have t2:gk<WM.heap.size:=iv s2 hb.size;have Lg:=ae (cF.drew.trans (hb.mono cF.size));obtain⟨xo,yo,zo,rfl⟩:=df h1;have HO:=ae h1;clear h1 hb))
 all_goals
  go_wp2_with fail;go_ret;have hle:=cF.size;exact⟨_,rfl,.aggr WM.heap.size (bR hB Lg.size) ((aM.new WM _ _).lt) o t x wo _ ls (((cO.jt HO).lo (bR hB (by simpa using hle))).below ((aU _ WM).alloc (aS _) _)) ((aM.new WM _ _).cell 0) ((aM.new WM _ _).cell 1) ((aM.new WM _ _).cell 2) ((aM.new WM _ _).cell 3) ((aM.new WM _ _).cell 4),Lg.alloc Lg.size _⟩
theorem Ns (w:World) (B:Nat) (hB:B≤w.heap.size) (o:ByteArray) (t u:TypeId) (x y:Value) (wo:Bool) (ls:List ByteArray) (am ao ai al:Option Addr) (nm cm no co ni ci nl cl:Nat) (gk ok ck:Nat) (Lh:B≤gk) (uZ:gk<w.heap.size) (lK:w.cell? ⟨gk,ok,none⟩=some (.iface u y)) (mP:w.cell? ⟨gk,ok+1,none⟩=some (.iface t x)) (hl:cO 0 w (.slice al nl cl) ls) (hn:ls.length≤1099511627776):
  Calls prog 61 #[.agg #[.int .i64 9,.int .i64 2,.string o,.string eS,.slice am nm cm,.string eS,.string eS,.string eS,.string eS,.bool false,.bool false,.bool false,.slice ao no co,.int .i64 0,.slice ai ni ci,.bool wo,.slice al nl cl],.slice (some ⟨gk,ok,none⟩) 2 ck] w (iH B w {zr 9 2 with op:=o,without:=wo,labels:=ls} [.iface u y,.iface t x]):=by
 obtain⟨A,hA⟩: ∃A:Array Value,A= #[.int .i64 9,.int .i64 2,.string o,.string eS,.slice am nm cm,.string eS,.string eS,.string eS,.string eS,.bool false,.bool false,.bool false,.slice ao no co,.int .i64 0,.slice ai ni ci,.bool wo,.slice al nl cl]:=⟨_,rfl⟩;obtain⟨W1,lX⟩: ∃W1,W1=w.alloc (.cells A 46):=⟨_,rfl⟩;have aY:Below w.heap.size w W1:=by rw[lX];exact(aU _ w).alloc (aS _) _
 have de:aM W1 w.heap.size 46 A:=by rw[lX];exact aM.new _ _ _
 have Xv:Hid (∀W,Below w.heap.size w W→Calls prog 65 #[.slice al nl cl] W (LX W ls)):=ae fun W hb=>sH (hl.below hb) hn
 have b2:W1.cell? ⟨w.heap.size,2,none⟩=some (.string o):=(de.cell 2).trans (by rw[hA];rfl);have b15:W1.cell? ⟨w.heap.size,15,none⟩=some (.bool wo):=(de.cell 15).trans (by rw[hA];rfl);have b16:W1.cell? ⟨w.heap.size,16,none⟩=some (.slice al nl cl):=(de.cell 16).trans (by rw[hA];rfl);have l0:W1.cell? ⟨gk,ok,none⟩=some (.iface u y):=(aY.cell (p:=⟨gk,_,none⟩) uZ).trans lK;have l1:W1.cell? ⟨gk,ok+1,none⟩=some (.iface t x):=(aY.cell (p:=⟨gk,_,none⟩) uZ).trans mP;have c2:W1.drew.cell? ⟨w.heap.size,2,none⟩=some (.string o):=b2;have NY:W1.drew.cell? ⟨w.heap.size,15,none⟩=some (.bool wo):=b15;have NZ:W1.drew.cell? ⟨w.heap.size,16,none⟩=some (.slice al nl cl):=b16;have k0:W1.drew.cell? ⟨gk,ok,none⟩=some (.iface u y):=l0;have k1:W1.drew.cell? ⟨gk,ok+1,none⟩=some (.iface t x):=l1;rw[hA]at lX;have FH:=ae lX;have cF:=ae aY;have s1:=de.lt;have s2:gk<W1.heap.size:=iv uZ aY.size;have Li:IntKind.i64.wrap 0=0:=by decide
 have eC:IntKind.i64.wrap 1=1:=by decide
 have AD:IntKind.i64.wrap (2-1)=1:=by decide
 have qA:IntKind.i64.wrap (1-1)=0:=by decide
 have Lx:=ae hA;have oY:=ae de;clear lX aY de hA lK mP hl;have L0:=ae l0;have L1:=ae l1;go_enter func61,ntmps61;go_wp2_with fail;rw[←FH.out];go_region_held3 (fun W=>W.cell? ⟨w.heap.size,2,none⟩=some (.string o)∧W.cell? ⟨w.heap.size,15,none⟩=some (.bool wo)∧W.cell? ⟨w.heap.size,16,none⟩=some (.slice al nl cl)∧W.cell? ⟨gk,ok,none⟩=some (.iface u y)∧W.cell? ⟨gk,ok+1,none⟩=some (.iface t x)) (first|go_keep) (first|(go_at_call 65;(with_reducible refine(Xv.out _ cF.out.drew).mono ?_);rintro e WM ⟨o2,rfl,h1,hb⟩;have p2:WM.cell? ⟨w.heap.size,2,none⟩=some (.string o):=(hb.cell (p:=⟨w.heap.size,2,none⟩) oY.out.lt).trans ((oY.out.cell 2).trans (by rw[Lx.out];rfl));have p15:WM.cell? ⟨w.heap.size,15,none⟩=some (.bool wo):=(hb.cell (p:=⟨w.heap.size,15,none⟩) oY.out.lt).trans ((oY.out.cell 15).trans (by rw[Lx.out];rfl));have p16:WM.cell? ⟨w.heap.size,16,none⟩=some (.slice al nl cl):=(hb.cell (p:=⟨w.heap.size,16,none⟩) oY.out.lt).trans ((oY.out.cell 16).trans (by rw[Lx.out];rfl));have r0:WM.cell? ⟨gk,ok,none⟩=some (.iface u y):=(hb.cell (p:=⟨gk,_,none⟩) s2).trans L0.out;have r1:WM.cell? ⟨gk,ok+1,none⟩=some (.iface t x):=(hb.cell (p:=⟨gk,_,none⟩) s2).trans L1.out;have t1:w.heap.size<WM.heap.size:=iv s1 hb.size;have t2:gk<WM.heap.size:=iv s2 hb.size;have Lg:Hid (Below w.heap.size w WM):=ae (cF.out.drew.trans (hb.mono cF.out.size));obtain⟨xo,yo,zo,rfl⟩:=df h1;have HO:=ae h1;clear h1 hb))
 all_goals
  go_wp2_with fail;go_ret;have hle:=cF.out.size;exact⟨_,rfl,.aggr2 WM.heap.size (bR hB Lg.out.size) ((aM.new WM _ _).lt) o t u x y wo _ ls (((cO.jt HO.out).lo (bR hB (by simpa using hle))).below ((aU _ WM).alloc (aS _) _)) ((aM.new WM _ _).cell 0) ((aM.new WM _ _).cell 1) ((aM.new WM _ _).cell 2) ((aM.new WM _ _).cell 3) ((aM.new WM _ _).cell 4),Lg.out.alloc Lg.out.size _⟩
