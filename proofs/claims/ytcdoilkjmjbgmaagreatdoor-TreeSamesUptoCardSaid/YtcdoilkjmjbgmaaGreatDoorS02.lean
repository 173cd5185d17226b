import Derived.Test.YtcdoilkjmjbgmaaGreatDoorS01
import Derived.Lib.DecodeN
import Derived.Lib.Strings
/- Part of the proof of YtcdoilkjmjbgmaaGreatDoorCardY: PlB UtfA PlC PlE UtfB UtfC UtfD. -/
set_option maxRecDepth 100000
set_option maxHeartbeats 4000000
set_option linter.unusedVariables false
set_option linter.unusedSimpArgs false
namespace Go.Proofs.YtcdoilkjmjbgmaaGreatDoor
open Go.RowKit
open Go.Proofs.Tryz
variable {l r bs new:List UInt8} {i n k base j d V:Nat} {a c q x:UInt8} {b m:Int} {s:ByteArray} {P:Program} {w0 w w':World} {ops:Array Oper} {rest:List Oper} {o:Oper} {Q:Exit→Act→World→Prop} {v v':Value} {us:List Int} {xs:List Value}
def dec (l:List UInt8) (i:Nat):Nat×Nat:=Lib.decodeN (l.length-i) (l.getD i 0).toNat (l.getD (i+1) 0).toNat (l.getD (i+2) 0).toNat (l.getD (i+3) 0).toNat
theorem vU (s:ByteArray) (i:Nat):s.get! i=s.data.toList.getD i 0:=by
 cases s with
 |mk d=>
  simp only[ByteArray.get!,lf,Array.getElem?_toList];rw[getElem!_def];cases d[i]? <;>rfl
theorem abE (s:ByteArray) (i:Nat):Utf8.decode s i=dec s.data.toList i:=by
 rw[Lib.decode_at,dec,vU,vU,vU,vU,af]
theorem vM (l:List UInt8) (i:Nat):1≤(dec l i).2:=by
 unfold dec Lib.decodeN
 repeat' split
 all_goals simp
theorem Tk (l:List UInt8) (i:Nat) (h:i<l.length):i+(dec l i).2≤l.length:=by
 unfold dec Lib.decodeN
 repeat' split
 all_goals simp
 all_goals omega
def bad (l:List UInt8) (i:Nat):Bool:=dec l i==(65533,1)
def R7 (l:List UInt8):Nat→Nat→Bool
 |0,_=>true
 |f+1,i=>if i<l.length then(if bad l i then false else R7 l f (i+(dec l i).2))else true
def valid (l:List UInt8):Bool:=R7 l l.length 0
theorem vN (l:List UInt8) (f i:Nat) (h:l.length≤i):R7 l f i=true:=by
 cases f with
 |zero=>rfl
 |succ f=>rw[R7,ah (by omega)]
theorem IX (l:List UInt8): ∀(f g i:Nat),l.length-i≤f→l.length-i≤g→R7 l f i=R7 l g i
 |0,g,i,hf,_=>by rw[vN l 0 i (by omega),vN l g i (by omega)]
 |f+1,0,i,_,hg=>by rw[vN l 0 i (by omega),vN l (f+1) i (by omega)]
 |f+1,g+1,i,hf,hg=>by
  rw[R7,R7];have:=vM l i;by_cases h:i<l.length
  ·rw[az h,az h,IX l f g _ (by omega) (by omega)]
  ·rw[ah h,ah h]
def vE (l:List UInt8) (i:Nat):Bool:=R7 l (l.length-i) i
theorem BU (l:List UInt8):vE l 0=valid l:=rfl
theorem EB (h:l.length≤i):vE l i=true:=vN _ _ _ h
theorem EC (h:i<l.length) (hb:bad l i=true):vE l i=false:=by
 unfold vE;obtain⟨f,hf⟩: ∃f,l.length-i=f+1:=⟨l.length-i-1,by omega⟩;rw[hf,R7,az h,hb];rfl
theorem BV (h:i<l.length) (hb:bad l i=false):vE l (i+(dec l i).2)=vE l i:=by
 unfold vE;obtain⟨f,hf⟩: ∃f,l.length-i=f+1:=⟨l.length-i-1,by omega⟩;rw[hf,R7,az h,hb];have:=vM l i;exact IX l _ _ _ (by omega) (by omega)
def FN (l:List UInt8) (i:Nat):Bool:=(l.drop i).take 3==[239,191,189]
theorem Z3 (l:List UInt8) (i:Nat) (h:i+3≤l.length):(l.drop i).take 3=[l.getD i 0,l.getD (i+1) 0,l.getD (i+2) 0]:=by
 apply Eh
 ·simp;omega
 ·intro j h1 h2;simp at h2;simp only[Iy,vr]
  match j,h2 with
  |0,_=>simp[lf,lJ (show i<l.length by omega)]
  |1,_=>simp[lf,lJ (show i+1<l.length by omega)]
  |2,_=>simp[lf,lJ (show i+2<l.length by omega)]
theorem yC (hn:n<256):a=UInt8.ofNat n↔a.toNat=n:=by
 constructor
 ·intro h;subst h;simp;omega
 ·intro h;apply A4.1;simp;omega
theorem Uq (h:(l.getD i 0).toNat=n) (hn:0<n):i<l.length:=by
 rcases dE i l.length with h'|h'
 ·exact h'
 ·rw[lf,D9 h']at h;simp at h;omega
theorem Ur (l:List UInt8) (i:Nat):FN l i=true↔(l.getD i 0).toNat=239∧(l.getD (i+1) 0).toNat=191∧(l.getD (i+2) 0).toNat=189:=by
 unfold FN;rw[cx];constructor
 ·intro h;have hl:i+3≤l.length:=by
   have:=cn List.length h;simp at this;omega
  rw[Z3 l i hl]at h;simp only[u6,kJ]at h;obtain⟨h1,h2,h3⟩:=h;rw[h1,h2,h3];decide
 ·rintro⟨h1,h2,h3⟩;have hl:i+2<l.length:=Uq h3 (by omega);rw[Z3 l i (by omega),(yC (by omega)).2 h1,(yC (by omega)).2 h2,(yC (by omega)).2 h3];decide
theorem Us (l:List UInt8) (i:Nat) (h:i<l.length):bad l i=((dec l i).1==65533&& !FN l i):=by
 have aY:(l.getD (i+1) 0).toNat<256:=(l.getD (i+1) 0).toNat_lt;have aQ:(l.getD (i+2) 0).toNat<256:=(l.getD (i+2) 0).toNat_lt;have Fy:(l.getD i 0).toNat<256:=(l.getD i 0).toNat_lt;have hr:=Ur l i;have xd:2<l.length-i∨(l.getD (i+2) 0).toNat=0:=by
  rcases dE (i+2) l.length with h'|h'
  ·left;omega
  ·right;rw[lf,D9 h'];rfl
 rw[eo];simp only[bad,cx,kH,Bool.not_eq_true'];rw[Bool.eq_false_iff,ne_eq,hr];unfold dec Lib.decodeN;generalize (l.getD i 0).toNat=b0 at*
 generalize (l.getD (i+1) 0).toNat=b1 at*
 generalize (l.getD (i+2) 0).toNat=b2 at*
 generalize (l.getD (i+3) 0).toNat=b3 at*
 clear hr
 repeat' split
 all_goals (simp only[vw];try dsimp only)
 all_goals first|omega|(simp only[vD,true_iff,not_and];omega)|(simp;omega)
def bg (n:Nat):Bool:=decide (n<55296)||(decide (57344≤n)&&decide (n≤1114111))
def fS (n:Nat):List UInt8:=
 if n<128 then[UInt8.ofNat n]
 else if n<2048 then[UInt8.ofNat (192+n/64),UInt8.ofNat (128+n%64)]
 else if n<65536 then[UInt8.ofNat (224+n/4096),UInt8.ofNat (128+n/64%64),UInt8.ofNat (128+n%64)]
 else[UInt8.ofNat (240+n/262144),UInt8.ofNat (128+n/4096%64),UInt8.ofNat (128+n/64%64),UInt8.ofNat (128+n%64)]
theorem xD (n:Nat):1≤(fS n).length∧(fS n).length≤4:=by
 unfold fS;repeat' split
 all_goals simp
def fa (c:UInt8):Option Nat:=
 if 48≤c.toNat∧c.toNat≤57 then some (c.toNat-48)
 else if 97≤c.toNat∧c.toNat≤102 then some (c.toNat-87)
 else if 65≤c.toNat∧c.toNat≤70 then some (c.toNat-55)else none
def fA (base:Nat):Nat→List UInt8→Option Nat
 |v,[]=>some v
 |v,c::r=>match fa c with
  |some d=>if d<base then fA base (v*base+d) r else none
  |none=>none
def fh (l:List UInt8) (n base:Nat):Option Nat:=if l.length<n then none else fA base 0 (l.take n)
def fo (base:Nat):Nat→List UInt8→Option Nat
 |v,[]=>some v
 |v,c::r=>match fa c with
  |some d=>if d<base∧v≤8388607 then fo base (v*base+d) r else none
  |none=>none
def fT (l:List UInt8) (n base:Nat):Option Nat:=if l.length<n then none else fo base 0 (l.take n)
def eI (q:UInt8):List UInt8→Option Nat
 |[]=>none
 |[c]=>if c=q then some 1 else none
 |c::d::r=>
  if c=q then some 1
  else if q=96 then(eI q (d::r)).map (· +1)
  else if c=10 then none
  else if c=92 then(if d=10 then none else(eI q r).map (· +2))
  else(eI q (d::r)).map (· +1)
def dC (c:UInt8):Bool:=c==34||c==39||c==96
def bC (l:List UInt8) (i:Nat):Option Nat:=if i<l.length∧dC (au l i)=true then(eI (au l i) (l.drop (i+1))).map (· +(i+1))else none
def dX (q:UInt8) (l:List UInt8) (i:Nat):Option Nat:=(eI q (l.drop i)).map (· +i)
theorem Ge {o:Option Nat} {a b c:Nat} (h:c=a+b):(o.map (· +a)).map (· +b)=o.map (· +c):=by
 cases o<;>simp;omega
theorem yO (h:l.length≤i):dX q l i=none:=by
 rw[dX,tY h];rfl
theorem drop_at (h:i<l.length):l.drop i=au l i::l.drop (i+1):=by
 rw[o5 h,au,lf,lJ h];rfl
theorem Ox:eI q (q::r)=some 1:=by
 cases r<;>simp[eI]
theorem JP (h:i<l.length) (hc:au l i=q):dX q l i=some (i+1):=by
 rw[dX,drop_at h,hc,Ox];simp;omega
theorem P9 (hc:c≠96):eI 96 (c::r)=(eI 96 r).map (· +1):=by
 cases r<;>simp[eI,hc]
theorem JQ (h:i<l.length) (hc:au l i≠96):dX 96 l i=dX 96 l (i+1):=by
 rw[dX,drop_at h,P9 hc,Ge (c:=i+1) (by omega)];rfl
theorem Ut (h:q≠96) (h2:q≠10):eI q (10::r)=none:=by
 cases r<;>simp[eI,h,h2.symm]
theorem Mq (h:i<l.length) (hq:q≠96) (tS:au l i≠q) (hc:au l i=10):dX q l i=none:=by
 rw[dX,drop_at h,hc,Ut hq (by rw[←hc];exact tS.symm)];rfl
theorem JR (h:q≠96) (h1:c≠q) (h2:c≠10) (h3:c≠92):eI q (c::r)=(eI q r).map (· +1):=by
 cases r<;>simp[eI,h,h1,h2,h3]
theorem DC (h:i<l.length) (hq:q≠96) (h1:au l i≠q) (h2:au l i≠10) (h3:au l i≠92):dX q l i=dX q l (i+1):=by
 rw[dX,drop_at h,JR hq h1 h2 h3,Ge (c:=i+1) (by omega)];rfl
theorem zU (h:i+1=l.length) (h1:au l i≠q):dX q l i=none:=by
 rw[dX,drop_at (by omega),tY (by omega)];simp[eI,h1]
theorem CJ (h:i+1<l.length) (hq:q≠96) (h1:au l i≠q) (h2:au l i=92) (h3:au l (i+1)=10):dX q l i=none:=by
 rw[dX,drop_at (by omega),drop_at h,h3];rw[h2]at h1 ⊢
 simp[eI,h1,hq]
theorem JS (h:i+1<l.length) (hq:q≠96) (h1:au l i≠q) (h2:au l i=92) (h3:au l (i+1)≠10):dX q l i=dX q l (i+2):=by
 rw[dX,drop_at (by omega),drop_at h];rw[h2]at h1 ⊢
 simp only[eI,ah h1,ah hq,ah (show ¬(92:UInt8)=10 by decide),az,ah h3];rw[Ge (c:=i+2) (by omega)];rfl
def lr (c:UInt8):UInt8:=if c=97 then 7 else if c=98 then 8 else if c=116 then 9 else if c=110 then 10 else if c=118 then 11 else if c=102 then 12 else 13
def eB (c:UInt8):Bool:=c==97||c==98||c==116||c==110||c==118||c==102||c==114
def dI (q:UInt8) (l:List UInt8):Option (List UInt8×Nat):=match l with
 |[]=>none
 |c::r=>
  if eB c then some ([lr c],1)
  else if c=92∨c=q then some ([c],1)
  else if c=120 then(fh r 2 16).map fun v=>([UInt8.ofNat v],3)
  else if c=117 then(fh r 4 16).bind fun v=>if bg v then some (fS v,5)else none
  else if c=85 then(fh r 8 16).bind fun v=>if bg v then some (fS v,9)else none
  else(fh (c::r) 3 8).bind fun v=>if v≤255 then some ([UInt8.ofNat v],3)else none
def kN (q:UInt8):Nat→List UInt8→Option (List UInt8)
 |0,_=>some []
 |_+1,[]=>some []
 |f+1,c::r=>if c≠92 then(kN q f r).map (c:: ·)else
  match dI q r with
  |none=>none
  |some (b,n)=>(kN q f (r.drop n)).map (b++ ·)
def lM (l:List UInt8):Nat×List UInt8:=
 if valid l=false then(4,[])
 else if bC l 0≠some l.length then(10,[])
 else if au l 0=96 then(0,(l.drop 1).take (l.length-2))
 else match kN (au l 0) l.length ((l.drop 1).take (l.length-2))with
  |none=>(11,[])
  |some b=>if valid b then(0,b)else(13,[])
theorem wJ (s:ByteArray) (i:Nat) (w:World) (hs:s.size≤281474976710656) (hi:i<s.size):
  Calls prog 102 #[.string s,.int .i64 (i:Int)] w fun e w'=>e= .returned (.bool (FN s.data.toList i))∧w=w':=by
 by_cases h3:i+3≤s.size
 ·have hr:FN s.data.toList i=((s.extract i (i+3)).toList==[239,191,189]):=by
   rw[FN,nM,Lib.extract_data,Nat.add_sub_cancel_left]
  have HR:=ae hr;clear hr;go_enter func102,ntmps102;go_wp2_with fail;go_ret;exact⟨ar (by rw[HR.out]),rfl⟩
 ·have hr:FN s.data.toList i=false:=by
   cases h:FN s.data.toList i
   ·rfl
   ·have:=cn List.length (cx.1 h);simp at this;omega
  have HR:=ae hr;clear hr;go_enter func102,ntmps102;go_wp2_with fail;go_ret;exact⟨ar (by rw[HR.out]),rfl⟩
theorem jW (s:ByteArray) (w:World) (hs:s.size≤281474976710656):
  Calls prog 79 #[.string s] w fun e w'=>e= .returned (.bool (valid s.data.toList))∧Below w.heap.size w w':=by
 have h0:=ae (BU s.data.toList);go_enter func79,ntmps79;go_wp2_with fail;go_loopw [] (fun w'=> ∃pos:Nat,pos≤s.size∧w'=w.iter s pos∧Hid (vE s.data.toList pos=valid s.data.toList)) (fun w'=>s.size-w'.iterPos w.heap.size)
 case atStart=>exact⟨0,aV _,rfl,h0.out⟩
 case round=>
  obtain⟨pos,pc,rfl,hv⟩:=hrel;by_cases hp:pos<s.size
  ·have hpl:pos<s.data.toList.length:=by rw[af];exact hp
   have Pg: ∀ty,(Instr.next (.pointer (some ⟨w.heap.size,0,none⟩)) true ty).run prog (w.iter s pos)=_:=fun ty=>run_next_any w s pos ty hp
   have hde:=abE s pos;rw[hde]at Pg;have Wo:=Us s.data.toList pos hpl;have eC:=vM s.data.toList pos;have AD:=Tk s.data.toList pos hpl;rw[af]at AD;have dy:=@BV s.data.toList pos hpl;have hbd:=@EC s.data.toList pos hpl;generalize (dec s.data.toList pos).1=r at Wo Pg;generalize (dec s.data.toList pos).2=d at eC AD dy Pg;by_cases hr:r=65533
   ·subst hr;cases hrp:FN s.data.toList pos
    ·have hb:bad s.data.toList pos=true:=by rw[Wo,hrp];rfl
     have HF:=ae ((hbd hb).symm.trans hv.out);clear Wo dy hbd hb hde;go_wp2_with (go_at_call 102;refine(wJ s pos _ hs hp).mono ?_;rintro e w' ⟨rfl,rfl⟩);go_ret;exact⟨ar (by rw[←HF.out]),(aU _ _).alloc (aS _) _⟩
    ·have hb:bad s.data.toList pos=false:=by rw[Wo,hrp];rfl
     have HF:=ae ((dy hb).trans hv.out);clear Wo dy hbd hb hde;go_wp2_with (go_at_call 102;refine(wJ s pos _ hs hp).mono ?_;rintro e w' ⟨rfl,rfl⟩);go_roundw
     case rel=>exact⟨pos+d,by omega,rfl,HF.out⟩
     case measure=>simp;omega
   ·have hb:bad s.data.toList pos=false:=by rw[Wo,bN.2 hr];rfl
    have HF:=ae ((dy hb).trans hv.out);have hrb:((r:Int)==65533)=false:=by rw[bN];omega
    clear Wo dy hbd hb hde hr;go_wp2_with fail;go_roundw
    case rel=>exact⟨pos+d,by omega,rfl,HF.out⟩
    case measure=>simp;omega
  ·have Pg: ∀ty,(Instr.next (.pointer (some ⟨w.heap.size,0,none⟩)) true ty).run prog (w.iter s pos)=_:=fun ty=>run_next_end w s pos ty hp
   have HF:=ae ((EB (l:=s.data.toList) (i:=pos) (by rw[af];omega)).symm.trans hv.out);go_wp2_with fail;go_ret;exact⟨ar (by rw[←HF.out]),(aU _ _).alloc (aS _) _⟩
def jN (o:Option Nat):Int:=match o with|some n=>n|none=>0
def nS (e:Int) (o:Option Nat):Int:=match o with|some _=>0|none=>e
theorem cJ (hn:n<256) (h:a.toNat=n):a=UInt8.ofNat n:=(yC hn).2 h
theorem zV (s:ByteArray) (i:Nat) (w:World) (hi:s.size≤i):
  Calls prog 149 #[.string s,.int .i64 (i:Int)] w fun e w'=>e= .returned (.tuple #[.int .i64 0,.int .i64 10])∧w=w':=by
 go_enter func149,ntmps149;go_wp2_with fail;go_ret2;exact⟨rfl,rfl⟩
theorem CK (s:ByteArray) (i:Nat) (w:World) (hi:i<s.size) (h1:s[i].toNat<34∨34<s[i].toNat) (h2:s[i].toNat<39∨39<s[i].toNat) (h3:s[i].toNat<96∨96<s[i].toNat):
  Calls prog 149 #[.string s,.int .i64 (i:Int)] w fun e w'=>e= .returned (.tuple #[.int .i64 0,.int .i64 10])∧w=w':=by
 have b1:((s[i].toNat:Int) != 34)=true:=by rw[jo];omega
 have b2:((s[i].toNat:Int) != 39)=true:=by rw[jo];omega
 have b3:((s[i].toNat:Int) != 96)=true:=by rw[jo];omega
 clear h1 h2 h3;go_enter func149,ntmps149;go_wp2_with fail;go_ret2;exact⟨rfl,rfl⟩
theorem jn {a:Int} (h:(a==b)=true):a=b:=cx.1 h
theorem kE {a:Int} (h:(a==b)=false):a≠b:=bN.1 h
theorem u8T {b:UInt8} (h:((a.toNat:Int)==(b.toNat:Int))=true):a=b:=by
 have:=jn h;exact A4.1 (by omega)
theorem KU {b:UInt8} (h:((a.toNat:Int)==(b.toNat:Int))=false):a≠b:=by
 rintro rfl;simp at h
theorem om (hn:n<256) (hm:m=n) (h:((a.toNat:Int)==m)=true):a=UInt8.ofNat n:=
 cJ hn (by have:=jn h;omega)
theorem pd (hn:n<256) (hm:m=n) (h:((a.toNat:Int)==m)=false):a≠UInt8.ofNat n:=by
 intro e;have:=(yC hn).1 e;exact kE h (by omega)
def fb (s:ByteArray) (q:UInt8) (T:Option Nat) (k:Nat):Prop:=k≤s.size+1∧dX q s.data.toList k=T
theorem Ao {T:Option Nat} (h:fb s q T k) (hk:s.size≤k):T=none:=by
 rw[←h.2,yO (by rw[af];exact hk)]
theorem Ap {T:Option Nat} (h:fb s q T k) (hk:k<s.size) (hq:s[k]=q):T=some (k+1):=by
 rw[←h.2,JP (by rw[af];exact hk) (by rw[ay hk];exact hq)]
theorem Oy {T:Option Nat} (h:fb s q T k) (hr:q=96) (hk:k<s.size) (hq:s[k]≠q):fb s q T (k+1):=by
 subst hr;exact⟨by omega,(JQ (by rw[af];exact hk) (by rw[ay hk];exact hq)).symm.trans h.2⟩
theorem TL {T:Option Nat} (h:fb s q T k) (hr:q≠96) (hk:k<s.size) (hq:s[k]≠q) (hn:s[k]=10):T=none:=by
 rw[←h.2,Mq (by rw[af];exact hk) hr (by rw[ay hk];exact hq) (by rw[ay hk];exact hn)]
theorem ED {T:Option Nat} (h:fb s q T k) (hr:q≠96) (hk:k<s.size) (hq:s[k]≠q) (hn:s[k]≠10) (hb:s[k]≠92):fb s q T (k+1):=
 ⟨by omega,(DC (by rw[af];exact hk) hr (by rw[ay hk];exact hq) (by rw[ay hk];exact hn) (by rw[ay hk];exact hb)).symm.trans h.2⟩
theorem nD {T:Option Nat} (h:fb s q T k) (hk:k+1=s.size) (hq:s[k]'(by omega)≠q):fb s q T (k+2):=by
 refine⟨by omega,?_⟩;rw[←h.2,yO (by rw[af];omega),zU (by rw[af];exact hk) (by rw[ay (by omega)];exact hq)]
theorem BW {T:Option Nat} (h:fb s q T k) (hr:q≠96) (hk:k+1<s.size) (hq:s[k]≠q) (hb:s[k]=92) (hn:s[k+1]=10):T=none:=by
 rw[←h.2,CJ (by rw[af];exact hk) hr (by rw[ay (by omega)];exact hq) (by rw[ay (by omega)];exact hb) (by rw[ay hk];exact hn)]
theorem Aq {T:Option Nat} (h:fb s q T k) (hr:q≠96) (hk:k+1<s.size) (hq:s[k]≠q) (hb:s[k]=92) (hn:s[k+1]≠10):fb s q T (k+2):=
 ⟨by omega,(JS (by rw[af];exact hk) hr (by rw[ay (by omega)];exact hq) (by rw[ay (by omega)];exact hb) (by rw[ay hk];exact hn)).symm.trans h.2⟩
theorem iJ {T U:Option Nat} {a:Int} (h:T=U) (ha:a=jN U) (hb:b=nS 10 U):Ending.returned (.tuple #[.int .i64 a,.int .i64 b])= .returned (.tuple #[.int .i64 (jN T),.int .i64 (nS 10 T)]):=by
 subst h ha hb;rfl
theorem zW (s:ByteArray) (i:Nat) (w:World) (hs:s.size≤281474976710656) (hi:i<s.size) (T:Option Nat) (hT:fb s s[i] T (i+1)) (hq:s[i]=96)
  (aY:((s[i].toNat:Int) != 34)=true) (aQ:((s[i].toNat:Int) != 39)=true) (cu:((s[i].toNat:Int) != 96)=false) (fe:((s[i].toNat:Int)==96)=true):
  Calls prog 149 #[.string s,.int .i64 (i:Int)] w fun e w'=>e= .returned (.tuple #[.int .i64 (jN T),.int .i64 (nS 10 T)])∧w=w':=by
 have s9:decide ((i:Int)<0)=false:=by simp
 have hi1:decide (s.size≤i)=false:=by simpa using hi
 have wZ:decide ((s.size:Int)≤(i:Int))=false:=by simpa using hi
 have HT:=ae hT;have HQ:=ae hq;clear hT hq
 all_goals
  go_enter func149,ntmps149;go_wp2_with fail;go_loop [7] (fun t=> ∃k:Nat,k≤s.size+1∧t= .int .i64 k∧fb s s[i] T k) (fun t=>s.size+1-(intOf t).toNat)
  case atStart=>exact⟨i+1,by omega,by go_num,HT.out⟩
  case round=>
   obtain⟨k,hk,rfl,hrel⟩:=hrel;clear HT;have HR:=ae hrel;clear hrel;by_cases aA:k<s.size
   ·cases h1:((s[k].toNat:Int)==(s[i].toNat:Int))
    ·go_wp2_with fail;go_round
     case rel=>exact⟨k+1,by omega,by go_num,Oy HR.out HQ.out aA (KU h1)⟩
     case measure=>simp[intOf];omega
    ·go_wp2_with fail;go_ret2;exact⟨iJ (Ap HR.out aA (u8T h1)) (by simp[jN]) rfl,rfl⟩
   ·go_wp2_with fail;go_ret2;exact⟨iJ (Ao HR.out (by omega)) rfl rfl,rfl⟩
theorem qu (s:ByteArray) (i:Nat) (w:World) (hs:s.size≤281474976710656) (hi:i<s.size) (T:Option Nat) (hT:fb s s[i] T (i+1)) (hq:s[i]≠96)
  (b1 b2:Bool) (aY:((s[i].toNat:Int) != 34)=b1) (aQ:((s[i].toNat:Int) != 39)=b2) (fe:((s[i].toNat:Int)==96)=false) (oc:(b1&&b2)=false):
  Calls prog 149 #[.string s,.int .i64 (i:Int)] w fun e w'=>e= .returned (.tuple #[.int .i64 (jN T),.int .i64 (nS 10 T)])∧w=w':=by
 have s9:decide ((i:Int)<0)=false:=by simp
 have hi1:decide (s.size≤i)=false:=by simpa using hi
 have wZ:decide ((s.size:Int)≤(i:Int))=false:=by simpa using hi
 have HT:=ae hT;have HQ:=ae hq;clear hT hq;cases b1<;>cases b2<;>first|(simp at oc;done)|skip
 all_goals
  clear oc;go_enter func149,ntmps149;go_wp2_with fail;go_loop [7] (fun t=> ∃k:Nat,k≤s.size+1∧t= .int .i64 k∧fb s s[i] T k) (fun t=>s.size+1-(intOf t).toNat)
  case atStart=>exact⟨i+1,by omega,by go_num,HT.out⟩
  case round=>
   obtain⟨k,hk,rfl,hrel⟩:=hrel;clear HT;have HR:=ae hrel;clear hrel;by_cases aA:k<s.size
   ·cases h1:((s[k].toNat:Int)==(s[i].toNat:Int))
    ·cases h2:((s[k].toNat:Int)==10)
     ·cases h3:((s[k].toNat:Int)==92)
      ·go_wp2_with fail;go_round
       case rel=>exact⟨k+1,by omega,by go_num,ED HR.out HQ.out aA (KU h1) (pd (n:=10) (by omega) rfl h2) (pd (n:=92) (by omega) rfl h3)⟩
       case measure=>simp[intOf];omega
      ·by_cases jR:k+1<s.size
       ·cases h4:((s[k+1].toNat:Int)==10)
        ·go_wp2_with fail;go_round
         case rel=>first|exact⟨k+2,by omega,by go_num,Aq HR.out HQ.out jR (KU h1) (om (n:=92) (by omega) rfl h3) (pd (n:=10) (by omega) rfl h4)⟩|((repeat apply Exists.intro);exact⟨⟨k+2,by omega,by go_num,Aq HR.out HQ.out jR (KU h1) (om (n:=92) (by omega) rfl h3) (pd (n:=10) (by omega) rfl h4)⟩,rfl⟩)
         case measure=>simp[intOf];omega
        ·go_wp2_with fail;go_ret2;exact⟨iJ (BW HR.out HQ.out jR (KU h1) (om (n:=92) (by omega) rfl h3) (om (n:=10) (by omega) rfl h4)) rfl rfl,rfl⟩
       ·go_wp2_with fail;go_round
        case rel=>first|exact⟨k+2,by omega,by go_num,nD HR.out (by omega) (KU h1)⟩|((repeat apply Exists.intro);exact⟨⟨k+2,by omega,by go_num,nD HR.out (by omega) (KU h1)⟩,rfl⟩)
        case measure=>simp[intOf];omega
     ·go_wp2_with fail;go_ret2;exact⟨iJ (TL HR.out HQ.out aA (KU h1) (om (n:=10) (by omega) rfl h2)) rfl rfl,rfl⟩
    ·go_wp2_with fail;go_ret2;exact⟨iJ (Ap HR.out aA (u8T h1)) (by simp[jN]) rfl,rfl⟩
   ·go_wp2_with fail;go_ret2;exact⟨iJ (Ao HR.out (by omega)) rfl rfl,rfl⟩
theorem pW {base:Nat}: ∀{l:List UInt8} {v r:Nat},fo base v l=some r→fA base v l=some r
 |[],v,r,h=>by simpa [fo,fA]using h
 |c::l,v,r,h=>by
  simp only[fo]at h;simp only[fA];cases hd:fa c with
  |none=>rw[hd]at h;simp at h
  |some d=>
   rw[hd]at h;simp only at h ⊢
   by_cases hb:d<base∧v≤8388607
   ·rw[az hb]at h;rw[az hb.1];exact pW h
   ·rw[ah hb]at h;simp at h
theorem EE {base:Nat} (hb:1≤base): ∀{l:List UInt8} {v r:Nat},fA base v l=some r→v≤r
 |[],v,r,h=>by simp[fA]at h;omega
 |c::l,v,r,h=>by
  simp only[fA]at h;cases hd:fa c with
  |none=>rw[hd]at h;simp at h
  |some d=>
   rw[hd]at h;simp only at h;split at h
   ·have:=EE hb h;have h2:v*1≤v*base:=tZ v hb;omega
   ·simp at h
theorem rN {base:Nat} (hb:1≤base): ∀{l:List UInt8} {v r:Nat},fA base v l=some r→r≤8388607→fo base v l=some r
 |[],v,r,h,_=>by simpa [fo,fA]using h
 |c::l,v,r,h,hr=>by
  have hv:=EE hb h;simp only[fA]at h;simp only[fo];cases hd:fa c with
  |none=>rw[hd]at h;simp at h
  |some d=>
   rw[hd]at h;simp only at h ⊢
   by_cases R8:d<base
   ·rw[az R8]at h;rw[az ⟨R8,by omega⟩];exact rN hb h hr
   ·rw[ah R8]at h;simp at h
theorem Bu (hb:1≤base) (hn: ∀r,fh l n base=some r→r≤8388607):fT l n base=fh l n base:=by
 unfold fT;unfold fh at hn ⊢
 split
 ·rfl
 ·rename_i hl;rw[ah hl]at hn;cases h:fA base 0 (l.take n)with
  |some r=>exact rN hb h (hn r h)
  |none=>
   cases h':fo base 0 (l.take n)with
   |none=>rfl
   |some r=>rw[pW h']at h;simp at h
theorem EF {base:Nat}: ∀{l:List UInt8} {v r:Nat},fA base v l=some r→r<(v+1)*base^l.length
 |[],v,r,h=>by simp[fA]at h;simp;omega
 |c::l,v,r,h=>by
  simp only[fA]at h;cases hd:fa c with
  |none=>rw[hd]at h;simp at h
  |some d=>
   rw[hd]at h;simp only at h;split at h
   ·rename_i R8;have:=EF h;have h2:v*base+d+1≤(v+1)*base:=by rw[ow];omega
    have h3:=fg (base^l.length) h2;rw[ek,ep,fx (base^l.length) base,←cg];omega
   ·simp at h
theorem si {r:Nat} (hb:1≤base) (h:fh l n base=some r):r<base^n:=by
 unfold fh at h;split at h
 ·simp at h
 ·have:=EF h;have h2:(l.take n).length≤n:=List.length_take_le n l;have h3:=dZ hb h2;omega
theorem BX (l:List UInt8):fT l 2 16=fh l 2 16:=Bu (by omega) fun r h=>by have:=si (by omega) h;omega
theorem Mr (l:List UInt8):fT l 4 16=fh l 4 16:=Bu (by omega) fun r h=>by have:=si (by omega) h;omega
theorem Qa (l:List UInt8):fT l 3 8=fh l 3 8:=Bu (by omega) fun r h=>by have:=si (by omega) h;omega
theorem uk (h:bg n=true):n≤1114111:=by simp[bg]at h;omega
theorem Ms (l:List UInt8) (F:Nat→Option (List UInt8×Nat)):((fT l 8 16).bind fun v=>if bg v then F v else none)=((fh l 8 16).bind fun v=>if bg v then F v else none):=by
 unfold fT fh;split
 ·rfl
 ·cases h:fo 16 0 (l.take 8)with
  |some r=>rw[pW h]
  |none=>
   cases h':fA 16 0 (l.take 8)with
   |none=>rfl
   |some r=>
    cases hr:bg r
    ·simp[hr]
    ·rw[rN (by omega) h' (by have:=uk hr;omega)]at h;simp at h
def qQ (q:UInt8) (l:List UInt8):List UInt8×Nat:=(dI q l).getD ([],0)
theorem Qb (h:eB c=true):qQ q (c::r)=([lr c],1):=by simp[qQ,dI,h]
theorem IY (h:eB c=false) (h2:c=92∨c=q):qQ q (c::r)=([c],1):=by simp[qQ,dI,h,h2]
theorem afE (hc:c=120) (hq:c≠q):qQ q (c::r)=match fT r 2 16 with|some v=>([UInt8.ofNat v],3)|none=>([],0):=by
 subst hc;rw[BX];have h1: ¬((120:UInt8)=92∨(120:UInt8)=q):=by rintro(h|h)<;>first|exact hq h|exact absurd h (by decide)
 have h0:eB 120=false:=by decide
 unfold qQ dI;simp only[h0,h1,iw,kK,lk];cases fh r 2 16<;>rfl
theorem afF (hc:c=117) (hq:c≠q):qQ q (c::r)=match fT r 4 16 with|some v=>if bg v then(fS v,5)else([],0)|none=>([],0):=by
 subst hc;rw[Mr];have h1: ¬((117:UInt8)=92∨(117:UInt8)=q):=by rintro(h|h)<;>first|exact hq h|exact absurd h (by decide)
 have h0:eB 117=false:=by decide
 have h2: ¬((117:UInt8)=120):=by decide
 unfold qQ dI;simp only[h0,h1,h2,iw,kK,lk];cases fh r 4 16 with
 |none=>rfl
 |some v=>cases h:bg v<;>simp[h]
theorem afG (hc:c=85) (hq:c≠q):qQ q (c::r)=match fT r 8 16 with|some v=>if bg v then(fS v,9)else([],0)|none=>([],0):=by
 subst hc;have h1: ¬((85:UInt8)=92∨(85:UInt8)=q):=by rintro(h|h)<;>first|exact hq h|exact absurd h (by decide)
 have h0:eB 85=false:=by decide
 have h2: ¬((85:UInt8)=120):=by decide
 have h3: ¬((85:UInt8)=117):=by decide
 unfold qQ dI;simp only[h0,h1,h2,h3,iw,kK,lk];rw[←Ms];cases fT r 8 16 with
 |none=>rfl
 |some v=>cases h:bg v<;>simp[h]
theorem Ye (h0:eB c=false) (h1:c≠92) (hq:c≠q) (h2:c≠120) (h3:c≠117) (h4:c≠85):qQ q (c::r)=match fT (c::r) 3 8 with|some v=>if v≤255 then([UInt8.ofNat v],3)else([],0)|none=>([],0):=by
 rw[Qa];have h5: ¬(c=92∨c=q):=by rintro(h|h)<;>first|exact hq h|exact h1 h
 unfold qQ dI;simp only[h0,h5,h2,h3,h4,iw,lk];cases fh (c::r) 3 8 with
 |none=>rfl
 |some v=>by_cases h:v≤255<;>simp[h]
theorem fX (s:ByteArray) (k:Nat):(s.extract k s.size).data.toList=s.data.toList.drop k:=by
 rw[Lib.extract_data,Dq (by simp)]
theorem fB (s:ByteArray) (k:Nat):(s.extract 0 k).data.toList=s.data.toList.take k:=by
 rw[Lib.extract_data];simp
def gO (c:UInt8):Bool:=digit c||(97≤c.toNat&&c.toNat≤102)||(65≤c.toNat&&c.toNat≤70)
def tc (c:UInt8):Bool:=c.toNat==101||c.toNat==69
def zM (c:UInt8):Bool:=c.toNat==43||c.toNat==45
def tT (c:UInt8):Bool:=c.toNat==120||c.toNat==88
def dG (l:List UInt8) (i:Nat):Nat:=if i+1<l.length∧zM (au l (i+1))=true then i+2 else i+1
def cU (l:List UInt8) (i:Nat):Nat:=
 if l.length≤i∨tc (au l i)=false then i
 else if dG l i<ag digit l (dG l i)then ag digit l (dG l i)else i
def aR (l:List UInt8):Bool:=decide (2<l.length)&&(au l 0).toNat==48&&tT (au l 1)&&gO (au l 2)
def aK (l:List UInt8):Nat:=
 if ag digit l 0<l.length∧(au l (ag digit l 0)).toNat=46∧0<ag digit l 0 then ag digit l (ag digit l 0+1)
 else if ag digit l 0=0∧1<l.length∧(au l 0).toNat=46∧digit (au l 1)=true then ag digit l 1
 else ag digit l 0
def an (l:List UInt8):Nat:=
 if aR l=true then ag gO l 2 else if aK l=0 then 0 else cU l (aK l)
theorem nE (l:List UInt8) (i:Nat) (h:i<l.length):i+1≤dG l i∧dG l i≤l.length:=by
 unfold dG;split<;>omega
theorem lY (l:List UInt8) (i:Nat) (h:i≤l.length):i≤cU l i∧cU l i≤l.length:=by
 unfold cU;split
 ·omega
 ·have h1:=nE l i (by omega);have h2:=bK digit l (dG l i) h1.2;split<;>omega
theorem lZ (l:List UInt8):aK l≤l.length:=by
 unfold aK;have h0:=bK digit l 0 (aV _);split
 ·exact bK digit l _ (by omega)
 ·split
  ·exact bK digit l _ (by omega)
  ·exact h0
theorem pX (l:List UInt8):an l≤l.length:=by
 unfold an;split
 ·rename_i h;simp[aR]at h;exact bK gO l 2 (by omega)
 ·split
  ·omega
  ·exact(lY l _ (lZ l)).2
theorem afH (h:aR s.data.toList=false) (hk:ag digit s.data.toList 0=k) (h1:k<s.size) (h2:((s[k].toNat:Int)==46)=true) (h3:0<k):an s.data.toList=cU s.data.toList (ag digit s.data.toList (k+1)):=by
 have h4:s[k].toNat=46:=by have:(s[k].toNat:Int)=46:=cx.1 h2;omega
 have h5:aK s.data.toList=ag digit s.data.toList (k+1):=by
  rw[aK,hk,az ⟨by rw[af];exact h1,by rw[ay h1];exact h4,h3⟩]
 have:=aW digit s.data.toList (k+1);rw[an,h,h5,ah (by simp),ah (by omega)]
theorem afI (h:aR s.data.toList=false) (hk:ag digit s.data.toList 0=0) (h1:1<s.size) (h2:((s[0].toNat:Int)==46)=true) (h3:digit s[1]=true):an s.data.toList=cU s.data.toList (ag digit s.data.toList 1):=by
 have h4:s[0].toNat=46:=by have:(s[0].toNat:Int)=46:=cx.1 h2;omega
 have h5:aK s.data.toList=ag digit s.data.toList 1:=by
  rw[aK,hk,ah (by omega),az ⟨rfl,by rw[af];exact h1,by rw[ay (by omega)];exact h4,by rw[ay h1];exact h3⟩]
 have:=aW digit s.data.toList 1;rw[an,h,h5,ah (by simp),ah (by omega)]
theorem afJ (h:aR s.data.toList=false) (hk:ag digit s.data.toList 0=k) (h0:k≠0) (h1: ∀h:k<s.size,((s[k].toNat:Int)==46)=false):an s.data.toList=cU s.data.toList k:=by
 have h5:aK s.data.toList=k:=by
  rw[aK,hk,ah,ah (by omega)];rintro⟨ha,hb,_⟩;rw[af]at ha;rw[ay ha]at hb;have:=bN.1 (h1 ha);omega
 rw[an,h,h5,ah (by simp),ah h0]
theorem afK (h:aR s.data.toList=false) (hk:ag digit s.data.toList 0=0) (h1: ∀h:1<s.size,((s[0].toNat:Int)==46)=true→digit s[1]=false):an s.data.toList=0:=by
 have h5:aK s.data.toList=0:=by
  rw[aK,hk,ah (by omega),ah];rintro⟨_,ha,hb,hc⟩;rw[af]at ha;rw[ay (by omega)]at hb;rw[ay ha,h1 ha (by rw[cx];omega)]at hc;simp at hc
 rw[an,h,h5,ah (by simp),az rfl]
theorem Yf (h:aR s.data.toList=true): ∃h:2<s.size,((s[0].toNat:Int)==48)=true∧gO s[2]=true∧((((s[1].toNat:Int)==120)=true)∨(((s[1].toNat:Int)==120)=false∧((s[1].toNat:Int)==88)=true)):=by
 simp only[aR,kH,ua,af]at h;obtain⟨⟨⟨h1,h2⟩,h3⟩,h4⟩:=h;rw[ay (by omega)]at h2 h3;rw[ay h1]at h4;refine⟨h1,by simp at h2 ⊢;omega,h4,?_⟩;simp[tT]at h3 ⊢
 omega
theorem abF (h:aR s.data.toList=false): ¬2<s.size∨ ∃h:2<s.size,((s[0].toNat:Int)==48)=false∨((s[0].toNat:Int)==48)=true∧((((s[1].toNat:Int)==120)=false∧((s[1].toNat:Int)==88)=false)∨((s[1].toNat:Int)==120)=true∧gO s[2]=false∨((s[1].toNat:Int)==120)=false∧((s[1].toNat:Int)==88)=true∧gO s[2]=false):=by
 by_cases h1:2<s.size
 ·refine .inr ⟨h1,?_⟩;simp only[aR,af,dO h1,mx]at h;rw[ay (by omega),ay (by omega),ay h1]at h;cases h2:((s[0].toNat:Int)==48)
  ·exact .inl rfl
  ·refine .inr ⟨rfl,?_⟩;have h2':(s[0].toNat==48)=true:=by simp at h2 ⊢;omega
   rw[h2',mx]at h;cases h3:((s[1].toNat:Int)==120)
   ·cases h4:((s[1].toNat:Int)==88)
    ·exact .inl ⟨rfl,rfl⟩
    ·have:tT s[1]=true:=by simp[tT]at h4 ⊢;omega
     rw[this,mx]at h;exact .inr (.inr ⟨rfl,rfl,h⟩)
   ·have:tT s[1]=true:=by simp[tT]at h3 ⊢;omega
    rw[this,mx]at h;exact .inr (.inl ⟨rfl,h⟩)
 ·exact .inl h1
theorem Mt (h:(i:Int)=(s.size:Int)):cU s.data.toList i=i:=by
 rw[cU,az (.inl (by rw[af];omega))]
theorem Qc (h:i<s.size) (h1:(s[i].toNat:Int)≠101) (h2:(s[i].toNat:Int)≠69):cU s.data.toList i=i:=by
 rw[cU,az (.inr (by rw[ay h,tc];simp;omega))]
theorem IZ (h:i+1<s.size) (h2:(s[i+1].toNat:Int)=43∨(s[i+1].toNat:Int)=45):dG s.data.toList i=i+2:=by
 rw[dG,az ⟨by rw[af];exact h,by rw[ay h,zM];simp;omega⟩]
theorem I0 (h2: ∀h:i+1<s.size,(s[i+1].toNat:Int)≠43∧(s[i+1].toNat:Int)≠45):dG s.data.toList i=i+1:=by
 rw[dG,ah];rintro⟨ha,hb⟩;rw[af]at ha;rw[ay ha,zM]at hb;have:=h2 ha;simp at hb;omega
theorem Mu (h:i<s.size) (h1:(s[i].toNat:Int)=101∨(s[i].toNat:Int)=69) (hj:dG s.data.toList i=j) (hk:ag digit s.data.toList j=k) (aA:j<k):cU s.data.toList i=k:=by
 rw[cU,hj,hk,ah,az aA];rw[af,ay h,tc];simp;omega
theorem JT (hj:dG s.data.toList i=j) (hk:ag digit s.data.toList j=k) (aA: ¬j<k):cU s.data.toList i=i:=by
 rw[cU,hj,hk,ah aA,ite_self]
theorem nF (s:ByteArray) (i:Nat) (w:World) (hs:s.size≤281474976710656):
  Calls prog 149 #[.string s,.int .i64 (i:Int)] w fun e w'=>e= .returned (.tuple #[.int .i64 (jN (bC s.data.toList i)),.int .i64 (nS 10 (bC s.data.toList i))])∧w=w':=by
 by_cases hi:i<s.size
 ·have R9:i<s.data.toList.length:=by rw[af];exact hi
  have cI:=ay hi;by_cases hq:dC s[i]=true
  ·have hT:fb s s[i] (bC s.data.toList i) (i+1):=by
    refine⟨by omega,?_⟩;rw[bC,az ⟨R9,by rw[cI];exact hq⟩,cI];rfl
   by_cases Sa:s[i]=96
   ·have e:s[i].toNat=96:=by rw[Sa];rfl
    exact zW s i w hs hi _ hT Sa (by rw[jo];omega) (by rw[jo];omega) (by rw[e];rfl) (by rw[e];rfl)
   ·have e:s[i].toNat=34∨s[i].toNat=39:=by
     simp only[dC,tu,cx]at hq;rcases hq with(h|h)|h
     ·left;rw[h];rfl
     ·right;rw[h];rfl
     ·exact absurd h Sa
    rcases e with e|e
    ·exact qu s i w hs hi _ hT Sa false true (by rw[e];rfl) (by rw[e];rfl) (by rw[e];rfl) rfl
    ·exact qu s i w hs hi _ hT Sa true false (by rw[e];rfl) (by rw[e];rfl) (by rw[e];rfl) rfl
  ·have hT:bC s.data.toList i=none:=by rw[bC,ah];rw[cI];exact fun h=>hq h.2
   rw[hT];have h1:s[i].toNat≠34:=fun e=>hq (by simp[dC,cJ (n:=34) (by omega) e])
   have h2:s[i].toNat≠39:=fun e=>hq (by simp[dC,cJ (n:=39) (by omega) e])
   have h3:s[i].toNat≠96:=fun e=>hq (by simp[dC,cJ (n:=96) (by omega) e])
   exact CK s i w hi (by omega) (by omega) (by omega)
 ·have hT:bC s.data.toList i=none:=by rw[bC,ah];rw[af];exact fun h=>hi h.1
  rw[hT];exact zV s i w (by omega)
def mU (c:UInt8):Int:=match fa c with|some d=>d|none=> -1
theorem xE (c:UInt8) (w:World):
  Calls prog 186 #[.int .u8 (c.toNat:Int)] w fun e w'=>e= .returned (.int .i32 (mU c))∧w=w':=by
 by_cases h1:48≤c.toNat∧c.toNat≤57
 ·have hf:=ae (show mU c=(c.toNat:Int)-48 by rw[mU,fa,az h1];simp;omega);obtain⟨h1,h2⟩:=h1;go_enter func186,ntmps186;go_wp2_with fail;go_ret;exact⟨aH (by rw[hf.out]),rfl⟩
 ·by_cases h2:97≤c.toNat∧c.toNat≤102
  ·have hf:=ae (show mU c=(c.toNat:Int)-97+10 by rw[mU,fa,ah h1,az h2];simp;omega);obtain⟨h2,h3⟩:=h2;clear h1;go_enter func186,ntmps186;go_wp2_with fail;go_ret;exact⟨aH (by rw[hf.out]),rfl⟩
  ·by_cases h3:65≤c.toNat∧c.toNat≤70
   ·have hf:=ae (show mU c=(c.toNat:Int)-65+10 by rw[mU,fa,ah h1,ah h2,az h3];simp;omega);obtain⟨h3,h4⟩:=h3;clear h1 h2;go_enter func186,ntmps186;go_wp2_with fail;go_ret;exact⟨aH (by rw[hf.out]),rfl⟩
   ·have hf:=ae (show mU c= -1 by rw[mU,fa,ah h1,ah h2,ah h3]);have hc:c.toNat<48∨(57<c.toNat∧c.toNat<65)∨(70<c.toNat∧c.toNat<97)∨102<c.toNat:=by omega
    clear h1 h2 h3;rcases hc with h|⟨h,h'⟩|⟨h,h'⟩|h
    all_goals
     go_enter func186,ntmps186;go_wp2_with fail;go_ret;exact⟨aH (by rw[hf.out]),rfl⟩
theorem Qd (c:UInt8) (w:World):
  Calls prog 174 #[.int .u8 (c.toNat:Int)] w fun e w'=>e= .returned (.int .u8 ((lr c).toNat:Int))∧w=w':=by
 have key: ∀n:Nat,n<256→c.toNat=n→c=UInt8.ofNat n:=fun n hn h=>cJ hn h
 by_cases h:c.toNat=97∨c.toNat=98∨c.toNat=116∨c.toNat=110∨c.toNat=118∨c.toNat=102
 ·rcases h with h|h|h|h|h|h
  all_goals
   have hc:=key _ (by omega) h;clear key h;subst hc;go_enter func174,ntmps174;go_wp2_with fail;go_ret;exact⟨rfl,rfl⟩
 ·have hf:=ae (show lr c=13 by
   have n1:c≠97:=fun e=>h (by rw[e];decide)
   have n2:c≠98:=fun e=>h (by rw[e];decide)
   have n3:c≠116:=fun e=>h (by rw[e];decide)
   have n4:c≠110:=fun e=>h (by rw[e];decide)
   have n5:c≠118:=fun e=>h (by rw[e];decide)
   have n6:c≠102:=fun e=>h (by rw[e];decide)
   simp[lr,n1,n2,n3,n4,n5,n6])
  have a1:((c.toNat:Int)==97)=false:=by rw[bN];omega
  have a2:((c.toNat:Int)==98)=false:=by rw[bN];omega
  have a3:((c.toNat:Int)==116)=false:=by rw[bN];omega
  have a4:((c.toNat:Int)==110)=false:=by rw[bN];omega
  have a5:((c.toNat:Int)==118)=false:=by rw[bN];omega
  have a6:((c.toNat:Int)==102)=false:=by rw[bN];omega
  clear key h;go_enter func174,ntmps174;go_wp2_with fail;go_ret;exact⟨aH (by rw[hf.out];rfl),rfl⟩
set_option maxRecDepth 1000000 in
theorem Mv (n:Nat) (w:World):
  Calls prog 176 #[.int .i32 (n:Int)] w fun e w'=>e= .returned (.bool (bg n))∧w=w':=by
 go_enter func176,ntmps176;go_wp2
 all_goals (go_ret;exact⟨ar (by rw[eo];simp[bg];omega),rfl⟩)
theorem afL (n:Nat) (h:n<2147483648):bits BinOp.and IntKind.i32 (n:Int) 63=((n%64:Nat):Int):=by
 show IntKind.i32.wrap ((BitVec.ofInt 32 (n:Int)&&&BitVec.ofInt 32 (63:Int)).toNat:Int)=_;have e1:(BitVec.ofInt 32 (n:Int)).toNat=n:=by rw[BitVec.ofInt_natCast,BitVec.toNat_ofNat];exact s5 (by omega)
 have e2:(BitVec.ofInt 32 (63:Int)).toNat=2^6-1:=by decide
 rw[BitVec.toNat_and,e1,e2,Dp,IntKind.wrap_i32];omega
theorem afM: ∀x:Fin 64,bits BinOp.or IntKind.u8 128 ((x.val:Nat):Int)=128+((x.val:Nat):Int):=by decide+kernel
theorem vV (n:Nat) (w:World) (hn:n≤1114111):
  Calls prog 187 #[.int .i32 (n:Int)] w fun e w'=>e= .returned (.int .u8 ((UInt8.ofNat (128+n%64)).toNat:Int))∧w=w':=by
 have h1:=afL n (by omega);have h2:=afM ⟨n%64,my _ (by omega)⟩;have h3:((n%64:Nat):Int)%256=((n%64:Nat):Int):=by omega
 have hf:((UInt8.ofNat (128+n%64)).toNat:Int)=128+((n%64:Nat):Int):=by
  rw[UInt8.toNat_ofNat'];omega
 have HF:=ae hf;clear hf;dsimp only at h2;generalize n%64=m at h1 h2 h3 HF;go_enter func187,ntmps187;go_wp2;go_ret;exact⟨aH (by rw[HF.out];first|done|simp[h1,h2,h3]),rfl⟩
theorem xF (x:Int) (n:Nat) (hx:x=(n:Int)) (w:World) (hn:n≤1114111):
  Calls prog 187 #[.int .i32 x] w fun e w'=>e= .returned (.int .u8 ((UInt8.ofNat (128+n%64)).toNat:Int))∧w=w':=by
 subst hx;exact vV n w hn
theorem fw {a:Act} 
  (hg:o.guard=none) (s x:Operand) (t:TypeId) (ye:o.op=Op.call {callee:=Callee.builtin Builtin.append,args:=#[s,x],argTypes:=#[t,t]})
  (base:Nat) (e:TypeId) (z:Value) (size bytes:Nat) (mz:(P.info? e).map (fun i=>(i.zero,i.size,i.bytes))=some (some z,size,bytes)) (h1:P.underlying t=some (.slice e)) (Ll:z.cells.size=size) (iI:0<size)
  (v:Value) (n:Nat) (xs:List Value) (hs:a.eval s=v) (aP:w0.ownsRow base e size v n xs) (m:Nat) (us:List Value) (Zv:us.length=m*size)
  (hx:a.eval x= .slice (some ⟨w0.heap.size,0,none⟩) m m) (R6: ∀u∈us,u.oneCell'=true) (ud:n+m≤maxLen) (hb:(n+m)*bytes≤140737488355328) (cT:base≤w0.heap.size)
  (hK: ∀v' w',w'.ownsRow base e size v' (n+m) (xs++us)→w0.grownBy w' v.ownBlock→wpList P ops Q rest (a.put o.dst v') w'):
  wpList P ops Q (o::rest) a (w0.alloc (.cells us.toArray e)):=by
 obtain⟨i,hi,hz,Pf,KS⟩:=lF mz;refine wpList_append_own _ hg s x t ye base e i z size bytes h1 hi hz Pf KS Ll iI v n xs hs (aP.alloc _) ⟨w0.heap.size,0,none⟩ m m us hx Zv ?_ R6 ud hb (by simp;omega) ?_
 ·intro j u hu;have hj:j<us.length:=(AV.1 hu).1;rw[lE,mr,xf _ _ _ _ rfl];simpa using hu
 ·intro v' w' ho jm _;exact hK v' w' ho (ee (yl w0 _ _) jm)
theorem yD: ∀(l:List Int),∀u∈l.map (Value.int .u8),u.oneCell'=true:=ints_oneCell _
theorem iK:(prog.info? 5).map (fun i=>(i.zero,i.size,i.bytes))=some (some (.int .u8 0),1,1):=by kernel_rfl
def oA (w:World) (v:Value) (base k:Nat) (bs new:List UInt8) (e:Ending) (w':World):Prop:=
 ∃v',e= .returned v'∧w'.ownsRow base 5 1 v' (k+new.length) (cellsOf (bs++new))∧w.grownBy w' v.ownBlock
theorem sw (m:Nat) (hm:m=new.length) (aP:w'.ownsRow base 5 1 v' (k+m) (cellsOf bs++us.map (Value.int .u8))) (hg:w.grownBy w' v.ownBlock)
  (hu:us=new.map fun c=>(c.toNat:Int)):oA w v base k bs new (.returned v') w':=by
 subst hm hu;refine⟨v',rfl,?_,hg⟩;rw[fP];simpa [cellsOf,List.map_map,Iz]using aP
theorem Qe (n:Nat) (w:World) (hn:n<128) (v:Value) (base k:Nat) (bs:List UInt8) (aP:w.ownsRow base 5 1 v k (cellsOf bs)) (cT:base≤w.heap.size) (hk:k≤281474976710):
  Calls prog 177 #[v,.int .i32 (n:Int)] w (oA w v base k bs [UInt8.ofNat n]):=by
 go_enter func177,ntmps177;go_wp2_with (at_builtin;refine fw rfl (.tmp 8) (.tmp 11) 147 rfl base 5 (.int .u8 0) 1 1 iK underlying147 rfl (by omega) v k _ rfl aP 1 _ rfl rfl (yD [(n:Int)]) (by unfold maxLen;omega) (by omega) cT ?_);intro v' w1 ho hg;have HO:=ae ho;have HG:=ae hg;clear ho hg aP;go_wp2_with fail;go_ret;exact sw (us:=[(n:Int)]) 1 rfl HO.out HG.out (by simp;omega)
theorem Qf (n:Nat) (w:World) (hn:128≤(n:Int)) (xd:(n:Int)<2048) (v:Value) (base k:Nat) (bs:List UInt8) (aP:w.ownsRow base 5 1 v k (cellsOf bs)) (cT:base≤w.heap.size) (hk:k≤281474976710):
  Calls prog 177 #[v,.int .i32 (n:Int)] w (oA w v base k bs [UInt8.ofNat (192+n/64),UInt8.ofNat (128+n%64)]):=by
 go_enter func177,ntmps177;go_wp2_with (first|(go_at_call 187;refine(vV _ _ (by omega)).mono ?_;rintro e w' ⟨rfl,rfl⟩)|(at_builtin;refine fw rfl (.tmp 16) (.tmp 23) 147 rfl base 5 (.int .u8 0) 1 1 iK underlying147 rfl (by omega) v k _ rfl aP 2 _ rfl rfl (yD [_,_]) (by unfold maxLen;omega) (by omega) cT ?_));intro v' w1 ho hg;have HO:=ae ho;have HG:=ae hg;clear ho hg aP;go_wp2_with fail;go_ret;exact sw (us:=[192+(n:Int)/64,(128+(n:Int)%64)%256]) 2 rfl HO.out HG.out (by simp;omega)
theorem Qg (n:Nat) (w:World) (hn:2048≤(n:Int)) (xd:(n:Int)≤65535) (v:Value) (base k:Nat) (bs:List UInt8) (aP:w.ownsRow base 5 1 v k (cellsOf bs)) (cT:base≤w.heap.size) (hk:k≤281474976710):
  Calls prog 177 #[v,.int .i32 (n:Int)] w (oA w v base k bs [UInt8.ofNat (224+n/4096),UInt8.ofNat (128+n/64%64),UInt8.ofNat (128+n%64)]):=by
 have ht:((n:Int)<65536)=True:=aD (by omega);go_enter func177,ntmps177;go_wp2_with fail;refine(xF _ (n/64) (by omega) _ (by omega)).mono ?_;rintro e w' ⟨rfl,rfl⟩;go_wp2_with fail;refine(vV n _ (by omega)).mono ?_;rintro e w' ⟨rfl,rfl⟩;go_wp2_with (at_builtin;refine fw rfl (.tmp 28) (.tmp 38) 147 rfl base 5 (.int .u8 0) 1 1 iK underlying147 rfl (by omega) v k _ rfl aP 3 _ rfl rfl (yD [_,_,_]) (by unfold maxLen;omega) (by omega) cT ?_);intro v' w1 ho hg;have HO:=ae ho;have HG:=ae hg;clear ho hg aP;go_wp2_with fail;go_ret;exact sw (us:=[224+(n:Int)/4096,(128+(n:Int)/64%64)%256,(128+(n:Int)%64)%256]) 3 rfl HO.out HG.out (by simp;omega)
theorem Qh (n:Nat) (w:World) (hn:65535<(n:Int)) (xd:(n:Int)≤1114111) (v:Value) (base k:Nat) (bs:List UInt8) (aP:w.ownsRow base 5 1 v k (cellsOf bs)) (cT:base≤w.heap.size) (hk:k≤281474976710):
  Calls prog 177 #[v,.int .i32 (n:Int)] w (oA w v base k bs [UInt8.ofNat (240+n/262144),UInt8.ofNat (128+n/4096%64),UInt8.ofNat (128+n/64%64),UInt8.ofNat (128+n%64)]):=by
 have ht:((n:Int)<65536)=False:=bT (by omega);go_enter func177,ntmps177;go_wp2_with fail;refine(xF _ (n/4096) (by omega) _ (by omega)).mono ?_;rintro e w' ⟨rfl,rfl⟩;go_wp2_with fail;refine(xF _ (n/64) (by omega) _ (by omega)).mono ?_;rintro e w' ⟨rfl,rfl⟩;go_wp2_with fail;refine(vV n _ (by omega)).mono ?_;rintro e w' ⟨rfl,rfl⟩;go_wp2_with (at_builtin;refine fw rfl (.tmp 40) (.tmp 53) 147 rfl base 5 (.int .u8 0) 1 1 iK underlying147 rfl (by omega) v k _ rfl aP 4 _ rfl rfl (yD [_,_,_,_]) (by unfold maxLen;omega) (by omega) cT ?_);intro v' w1 ho hg;have HO:=ae ho;have HG:=ae hg;clear ho hg aP;go_wp2_with fail;go_ret;exact sw (us:=[240+(n:Int)/262144,(128+(n:Int)/4096%64)%256,(128+(n:Int)/64%64)%256,(128+(n:Int)%64)%256]) 4 rfl HO.out HG.out (by simp;omega)
theorem Uu (n:Nat) (w:World) (hn:n≤1114111) (v:Value) (base k:Nat) (bs:List UInt8) (aP:w.ownsRow base 5 1 v k (cellsOf bs)) (cT:base≤w.heap.size) (hk:k≤281474976710):
  Calls prog 177 #[v,.int .i32 (n:Int)] w (oA w v base k bs (fS n)):=by
 unfold fS;split
 ·exact Qe n w (by omega) v base k bs aP cT hk
 ·split
  ·exact Qf n w (by omega) (by omega) v base k bs aP cT hk
  ·split
   ·exact Qg n w (by omega) (by omega) v base k bs aP cT hk
   ·exact Qh n w (by omega) (by omega) v base k bs aP cT hk
theorem EG (h:fa c=some d):mU c=d:=by rw[mU,h]
theorem EH (h:fa c=none):mU c= -1:=by rw[mU,h]
theorem EI (h:fa c=some d):d<16:=by
 unfold fa at h
 repeat' split at h
 all_goals simp at h
 all_goals omega
theorem BY (s:ByteArray) (x:Int) (n:Nat) (hx:x=(n:Int)) (b:Int) (base:Nat) (hb:b=(base:Int)) (w:World) (hs:s.size≤281474976710656) (hn:n≤8) (cT:base=8∨base=16):
  Calls prog 175 #[.string s,.int .i64 x,.int .i32 b] w fun e w'=>e= .returned (.tuple #[.int .i32 (jN (fT s.data.toList n base)),.bool (fT s.data.toList n base).isSome])∧Below w.heap.size w w':=by
 subst hx hb;by_cases hl:s.size<n
 ·have hT:fT s.data.toList n base=none:=by rw[fT,az (by rw[af];exact hl)]
  rw[hT];go_enter func175,ntmps175;go_wp2_with fail;go_ret2;exact⟨rfl,aU _ _⟩
 ·obtain⟨D,hD⟩: ∃D,D=s.data.toList.take n:=⟨_,rfl⟩;have hDl:D.length=n:=by rw[hD,nO,af];omega
  have hT:fT s.data.toList n base=fo base 0 D:=by rw[fT,ah (by rw[af];exact hl),hD]
  rw[hT];generalize kF:fo base 0 D=T;have HX:=ae hD;have HD:=ae hDl;have HT:=ae kF;have aY:8≤base∧base≤16:=by omega
  obtain⟨aY,aQ⟩:=aY;clear hT kF hD hDl cT;go_enter func175,ntmps175;go_wp2_with (with_reducible refine jI rfl (.tmp 18) 9 147 5 rfl (s.extract 0 n) rfl underlying9 underlying147 underlying5 ?_);intro cap w1 ue Fy tA aeH;rw[←HX.out]at Fy;have Ic:min n s.size=n:=by omega
  rw[Ic]at ue ⊢
  clear Ic;go_wp2_with fail;go_loop [8,21] (fun v i=> ∃k vv:Nat,k≤n∧i= .int .i64 k∧v= .int .i32 vv∧vv≤134217727∧Hid (fo base vv (D.drop k)=T)) (fun _ i=>n-(intOf i).toNat)
  case atStart=>exact⟨0,0,aV _,rfl,rfl,by omega,HT⟩
  case round=>
   obtain⟨k,vv,hk,rfl,rfl,Sb,hT⟩:=hrel;clear HX HT;by_cases aA:k<n
   ·have hkD:k<D.length:=by rw[HD.out];exact aA
    have hc:=Fy.cell hkD;have yE:D.drop k=D[k]::D.drop (k+1):=o5 hkD;have kF:=hT.out;rw[yE,fo]at kF;clear hT;generalize D[k]=c at hc kF;cases hd:fa c with
    |none=>
     have qK:=EH hd;rw[hd]at kF;have HT:=ae kF;clear kF hd yE Fy;go_wp2_with (go_at_call 186;refine(xE _ _).mono ?_;rintro e w' ⟨rfl,rfl⟩;rw[qK]);go_ret2;exact⟨by rw[←HT.out];rfl,tA⟩
    |some d=>
     have qK:=EG hd;have ajB:=EI hd;rw[hd]at kF;simp only at kF;by_cases R8:d<base∧vv≤8388607
     ·rw[az R8]at kF;obtain⟨aqX,ajC⟩:=R8;have hmul:vv*base≤8388607*16:=ov ajC aQ;have Z4:((vv*base:Nat):Int)=(vv:Int)*(base:Int):=by simp
      have Z6:(vv:Int)*(base:Int)≤134217712:=by omega
      have anu:0≤(vv:Int)*(base:Int):=by omega
      have HC:=ae Z4;have HM:=ae hmul;have HT:=ae kF;clear kF hd yE Fy Z4 hmul;go_wp2_with (go_at_call 186;refine(xE _ _).mono ?_;rintro e w' ⟨rfl,rfl⟩;rw[qK]);have hm:=HM.out;have ko:=HC.out;go_round
      case rel=>exact⟨k+1,vv*base+d,by omega,by go_num,by rw[Int.natCast_add,ko],by omega,HT⟩
      case measure=>simp[intOf];omega
     ·rw[ah R8]at kF;have HT:=ae kF;have ajD:base≤d∨(d<base∧8388607<vv):=by omega
      clear kF hd yE Fy R8;rcases ajD with h|⟨h,h2⟩
      all_goals
       go_wp2_with (go_at_call 186;refine(xE _ _).mono ?_;rintro e w' ⟨rfl,rfl⟩;rw[qK]);go_ret2;exact⟨by rw[←HT.out];rfl,tA⟩
   ·have kF:=hT.out;rw[tY (by rw[HD.out];omega)]at kF;have HT:=ae kF;clear kF hT Fy;go_wp2_with fail;go_ret2;exact⟨by rw[←HT.out];rfl,tA⟩
def vO (w:World) (v:Value) (base k:Nat) (bs:List UInt8) (r:List UInt8×Nat) (e:Ending) (w':World):Prop:=
 ∃v',e= .returned (.tuple #[v',.int .i64 (r.2:Int)])∧w'.ownsRow base 5 1 v' (k+r.1.length) (cellsOf (bs++r.1))∧w.grownBy w' v.ownBlock
theorem vW (aP:w'.ownsRow base 5 1 v k (cellsOf bs)) (hg:w.grownBy w' v.ownBlock):vO w v base k bs ([],0) (.returned (.tuple #[v,.int .i64 0])) w':=
 ⟨v,rfl,by simpa using aP,hg⟩
theorem vX {x:Int} (m:Nat) (hm:m=new.length) (hx:x=n) (aP:w'.ownsRow base 5 1 v' (k+m) (cellsOf bs++us.map (Value.int .u8))) (hg:w.grownBy w' v.ownBlock)
  (hu:us=new.map fun c=>(c.toNat:Int)):vO w v base k bs (new,n) (.returned (.tuple #[v',.int .i64 x])) w':=by
 subst hm hu hx;refine⟨v',rfl,?_,hg⟩;rw[fP];simpa [cellsOf,List.map_map,Iz]using aP
theorem oI (h:w.ownsRow base 5 1 v k xs) (hb:Below w.heap.size w w'):w'.ownsRow base 5 1 v k xs:=
 h.kept (fu hb none) (by cases v.ownBlock<;>simp)
theorem oB (h:0<s.size):(s.toList==[])=false∧s.toList.isEmpty=false:=by
 rw[nM];have:0<s.data.toList.length:=by rw[af];exact h
 cases hl:s.data.toList with
 |nil=>rw[hl]at this;simp at this
 |cons c r=>exact⟨rfl,rfl⟩
theorem head_eq (hl:s.data.toList=c::r) (h0:0<s.size):s[0]=c:=by
 rw[←gl s 0 (by rw[hl];simp)];simp[hl]
theorem Yg (hl:s.data.toList=c::r):(s.extract 1 s.size).data.toList=r:=by
 rw[fX,hl];rfl
theorem CL (q:UInt8) (w:World) (v:Value) (base k:Nat) (bs:List UInt8) (aP:w.ownsRow base 5 1 v k (cellsOf bs)) (cT:base≤w.heap.size) (hk:k≤281474976710):
  Calls prog 161 #[v,.string ⟨#[]⟩,.int .u8 (q.toNat:Int)] w (vO w v base k bs ([],0)):=by
 have HO:=ae aP;clear aP;go_enter func161,ntmps161;go_wp2_with fail;go_ret2;exact vW HO.out (World.grownBy.refl _ _)
structure IJ (s:ByteArray) (w:World) (v:Value) (base k:Nat) (bs:List UInt8):Prop where
 s:s.size≤281474976710656
 o:w.ownsRow base 5 1 v k (cellsOf bs)
 b:base≤w.heap.size
 k:k≤281474976710
def FO (s:ByteArray) (q:UInt8) (w:World) (v:Value) (base k:Nat) (bs:List UInt8) (r:List UInt8×Nat):Prop:=
 Calls prog 161 #[v,.string s,.int .u8 (q.toNat:Int)] w (vO w v base k bs r)
def Ie:List Int:=[97,98,116,110,118,102,114,92]
def Ig:List Int:=[97,98,116,110,118,102,114,92,120,117,85]
theorem Tl {n:Int} {l:List Int} (h:(x.toNat:Int)=n): ∀t∈l,((x.toNat:Int)==t)=(n==t):=fun t _=>by rw[h]
theorem Z7 {l:List Int} (h: ∀t∈l,(x.toNat:Int)≠t): ∀t∈l,((x.toNat:Int)==t)=false:=fun t ht=>bN.2 (h t ht)
theorem Z8 (h:x≠q):((x.toNat:Int)==(q.toNat:Int))=false:=by
 rw[bN];intro e;exact h (A4.1 (by omega))
theorem GC (H:IJ s w v base k bs) (h0:0<s.size) (hv:(s[0].toNat:Int)∈[(97:Int),98,116,110,118,102,114]):FO s q w v base k bs ([lr s[0]],1):=by
 obtain⟨hs,aP,cT,hk⟩:=H;unfold FO;obtain⟨e1,e2⟩:=oB h0;generalize hp:lr s[0]=z;simp only[gL,ll,iX]at hv;rcases hv with hv|hv|hv|hv|hv|hv|hv
 all_goals
  have T:=Tl (l:=Ig) hv;simp only[Ie,Ig,gL,yu,ll,El,Em,kJ,Int.reduceBEq]at T;obtain⟨_,_,_,_,_,_,_,_,_,_,_⟩:=T;clear hv;go_enter func161,ntmps161;go_wp2_with (first|(go_at_call 174;refine(Qd _ _).mono ?_;rintro e w' ⟨rfl,rfl⟩;rw[hp])|(at_builtin;refine fw rfl (.tmp 45) (.tmp 48) 147 rfl base 5 (.int .u8 0) 1 1 iK underlying147 rfl (by omega) v k _ rfl aP 1 _ rfl rfl (yD [_]) (by unfold maxLen;omega) (by omega) cT ?_));intro v' w1 ho hg;have HO:=ae ho;have HG:=ae hg;clear ho hg aP;go_wp2_with fail;go_ret2;exact vX (us:=[(z.toNat:Int)]) 1 rfl rfl HO.out HG.out rfl
theorem yP (H:IJ s w v base k bs) (h0:0<s.size) (hv:(s[0].toNat:Int)=92∨(∀t∈Ie,(s[0].toNat:Int)≠t)∧s[0]=q):FO s q w v base k bs ([s[0]],1):=by
 obtain⟨hs,aP,cT,hk⟩:=H;unfold FO;obtain⟨e1,e2⟩:=oB h0;have T:(∀t∈Ie,((s[0].toNat:Int)==t)=(92==t))∨(∀t∈Ie,((s[0].toNat:Int)==t)=false)∧((s[0].toNat:Int)==(q.toNat:Int))=true:=hv.imp Tl fun h=>⟨Z7 h.1,by rw[h.2];simp⟩
 clear hv;rcases T with T|⟨T,tq⟩
 all_goals
  simp only[Ie,Ig,gL,yu,ll,El,Em,kJ,Int.reduceBEq]at T;obtain⟨_,_,_,_,_,_,_,_⟩:=T;go_enter func161,ntmps161;go_wp2_with (at_builtin;refine fw rfl (.tmp 54) (.tmp 56) 147 rfl base 5 (.int .u8 0) 1 1 iK underlying147 rfl (by omega) v k _ rfl aP 1 _ rfl rfl (yD [_]) (by unfold maxLen;omega) (by omega) cT ?_);intro v' w1 ho hg;have HO:=ae ho;have HG:=ae hg;clear ho hg aP;go_wp2_with fail;go_ret2;exact vX (us:=[(s[0].toNat:Int)]) 1 rfl rfl HO.out HG.out rfl
theorem BZ (H:IJ s w v base k bs) (h0:0<s.size) (hq:s[0]≠q) {N:Nat} (hv:(s[0].toNat:Int)=120∧N=2∨(s[0].toNat:Int)=117∧N=4∨(s[0].toNat:Int)=85∧N=8) {D:Option Nat} (hd:fT (s.extract 1 s.size).data.toList N 16=D) {r:List UInt8×Nat}
  (hr:D=none∧r=([],0)∨(∃V,D=some V∧N=2∧V<256∧r=([UInt8.ofNat V],3))∨(∃V:Nat,D=some V∧N≠2∧bg V=false∧(V:Int)≤134217727∧r=([],0))∨ ∃V,D=some V∧N≠2∧bg V=true∧r=(fS V,N+1)):FO s q w v base k bs r:=by
 obtain⟨hs,aP,cT,hk⟩:=H;unfold FO;obtain⟨e1,e2⟩:=oB h0;have tq:=Z8 hq;have HX:Hid ((s.extract 1 s.size).size≤281474976710656):=ae (by simp;omega);have HR:=ae hr;have HD:=ae hd;clear hq hr hd;rcases hv with⟨hv,hN⟩|⟨hv,hN⟩|⟨hv,hN⟩
 all_goals
  have T:=Tl (l:=Ig) hv;simp only[Ie,Ig,gL,yu,ll,El,Em,kJ,Int.reduceBEq]at T;obtain⟨_,_,_,_,_,_,_,_,_,_,_⟩:=T;clear hv;go_enter func161,ntmps161;go_wp2_with fail;refine(BY (s.extract 1 s.size) _ N (by omega) _ 16 (by omega) _ HX.out (by omega) (.inr rfl)).mono ?_;rintro e w1 ⟨rfl,hb⟩;rw[HD.out];have mA:=oI aP hb;have F1:=bR cT hb.size;have HB:=ae hb;clear aP hb HX;rcases HR.out with⟨rfl,rfl⟩|⟨V,rfl,hn,hV,rfl⟩|⟨V,rfl,hn,hV,hV2,rfl⟩|⟨V,rfl,hn,hV,rfl⟩
  all_goals clear HR HD
  all_goals simp only[jN,Option.isSome]
  ·have Zw:=ae mA;clear mA;go_wp2_with fail;go_ret2;exact vW Zw.out (fu HB.out _)
  ·first
   |(exfalso;omega)
   |skip
    go_wp2_with (at_builtin;refine fw rfl (.tmp 67) (.tmp 70) 147 rfl base 5 (.int .u8 0) 1 1 iK underlying147 rfl (by omega) v k _ rfl mA 1 _ rfl rfl (yD [_]) (by unfold maxLen;omega) (by omega) F1 ?_);intro v' w2 ho hg;have HO:=ae ho;have HG:=ae hg;clear ho hg mA;go_wp2_with fail;go_ret2;exact vX (us:=[(V:Int)]) 1 rfl rfl HO.out (ee (fu HB.out _) HG.out) (by simp;omega)
  all_goals first
   |(exfalso;omega)
   |skip
    have Zw:=ae mA;have HR:=ae hV;clear mA;go_wp2_with fail;refine(Mv V _).mono ?_;rintro e w' ⟨rfl,rfl⟩;rw[hV];clear hV;go_wp2_with fail
    first
    |go_ret2
     exact vW Zw.out (fu HB.out _)
    |refine(Uu V _ (uk HR.out) v base k bs Zw.out F1 hk).mono ?_
     rintro e w2 ⟨v',rfl,ho,hg⟩;have HO:=ae ho;have HG:=ae hg;clear ho hg;go_wp2_with fail;go_ret2;exact⟨v',by subst hN;rfl,HO.out,ee (fu HB.out _) HG.out⟩
theorem Mw (H:IJ s w v base k bs) (h0:0<s.size) (hq:s[0]≠q) (hn: ∀t∈Ig,(s[0].toNat:Int)≠t) {D:Option Nat} (hd:fT s.data.toList 3 8=D) {r:List UInt8×Nat}
  (hr:D=none∧r=([],0)∨(∃V:Nat,D=some V∧255<(V:Int)∧r=([],0))∨ ∃V:Nat,D=some V∧(V:Int)≤255∧r=([UInt8.ofNat V],3)):FO s q w v base k bs r:=by
 obtain⟨hs,aP,cT,hk⟩:=H;unfold FO;obtain⟨e1,e2⟩:=oB h0;have tq:=Z8 hq;have HD:=ae hd;have T:=Z7 hn;simp only[Ie,Ig,gL,yu,ll,El,Em,kJ,Int.reduceBEq]at T;obtain⟨_,_,_,_,_,_,_,_,_,_,_⟩:=T;clear hq hd hn;have HR:=ae hr;clear hr;go_enter func161,ntmps161;go_wp2_with fail;refine(BY s _ 3 (by omega) _ 8 (by omega) _ hs (by omega) (.inl rfl)).mono ?_;rintro e w1 ⟨rfl,hb⟩;rw[HD.out];have mA:=oI aP hb;have F1:=bR cT hb.size;have HB:=ae hb;clear aP hb;rcases HR.out with⟨rfl,rfl⟩|⟨V,rfl,hV,rfl⟩|⟨V,rfl,hV,rfl⟩
 all_goals clear HR HD
 all_goals simp only[jN,Option.isSome]
 rotate_right
 ·go_wp2_with (at_builtin;refine fw rfl (.tmp 32) (.tmp 35) 147 rfl base 5 (.int .u8 0) 1 1 iK underlying147 rfl (by omega) v k _ rfl mA 1 _ rfl rfl (yD [_]) (by unfold maxLen;omega) (by omega) F1 ?_);intro v' w2 ho hg;have HO:=ae ho;have HG:=ae hg;clear ho hg mA;go_wp2_with fail;go_ret2;exact vX (us:=[(V:Int)]) 1 rfl rfl HO.out (ee (fu HB.out _) HG.out) (by simp;omega)
 all_goals
  have Zw:=ae mA;clear mA;go_wp2_with fail;go_ret2;exact vW Zw.out (fu HB.out _)
theorem B5 {base:Nat} (hb:base≤16): ∀{l:List UInt8} {v r:Nat},fo base v l=some r→v≤134217727→r≤134217727
 |[],v,r,h,hv=>by simp[fo]at h;omega
 |c::l,v,r,h,hv=>by
  simp only[fo]at h;cases hd:fa c with
  |none=>rw[hd]at h;simp at h
  |some d=>
   rw[hd]at h;simp only at h;split at h
   ·rename_i hx;have:v*base≤8388607*16:=ov hx.2 hb;exact B5 hb h (by omega)
   ·simp at h
theorem Uv (h:fT l n base=some V) (hb:base≤16):(V:Int)≤134217727:=by
 unfold fT at h;split at h
 ·simp at h
 ·have:=B5 hb h (by omega);omega
theorem B9 (s:ByteArray) (q:UInt8) (w:World) (hs:s.size≤281474976710656) (v:Value) (base k:Nat) (bs:List UInt8) (aP:w.ownsRow base 5 1 v k (cellsOf bs)) (cT:base≤w.heap.size) (hk:k≤281474976710):
  Calls prog 161 #[v,.string s,.int .u8 (q.toNat:Int)] w (vO w v base k bs (qQ q s.data.toList)):=by
 cases hl:s.data.toList with
 |nil=>
  have:s=⟨#[]⟩:=by rw[←mk_data s,hl]
  subst this;exact CL q w v base k bs aP cT hk
 |cons c r=>
  have h0:0<s.size:=by rw[←af,hl];simp
  have hc:=head_eq hl h0;have ht:=Yg hl;have H:IJ s w v base k bs:=⟨hs,aP,cT,hk⟩;have hi: ∀n:Nat,n<256→c≠UInt8.ofNat n→(s[0].toNat:Int)≠(n:Int):=fun n hn h e=>h (by rw[←hc];exact cJ hn (Int.ofNat.inj e))
  by_cases hp:eB c=true
  ·rw[Qb hp,←hc];refine GC H h0 ?_;rw[hc];have e:c=97∨c=98∨c=116∨c=110∨c=118∨c=102∨c=114:=by simpa [eB,or_assoc]using hp
   rcases e with e|e|e|e|e|e|e<;>(rw[e];decide)
  ·have hp':eB c=false:=by simpa using hp
   have np:c≠97∧c≠98∧c≠116∧c≠110∧c≠118∧c≠102∧c≠114:=by simpa [eB,and_assoc]using hp'
   obtain⟨n1,n2,n3,n4,n5,n6,n7⟩:=np;by_cases h92:c=92
   ·rw[IY hp' (.inl h92),←hc];exact yP H h0 (.inl (by rw[hc,h92];rfl))
   ·by_cases hq:c=q
    ·rw[IY hp' (.inr hq),←hc];refine yP H h0 (.inr ⟨?_,by rw[hc,hq]⟩);simp only[Ie,gL,yu,ll,El,Em,kJ];exact⟨hi 97 (by decide) n1,hi 98 (by decide) n2,hi 116 (by decide) n3,hi 110 (by decide) n4,hi 118 (by decide) n5,hi 102 (by decide) n6,hi 114 (by decide) n7,hi 92 (by decide) h92⟩
    ·have hq':s[0]≠q:=by rw[hc];exact hq
     by_cases XL:c=120
     ·rw[afE XL hq,←ht];refine BZ H h0 hq' (.inl ⟨by rw[hc,XL];rfl,rfl⟩) rfl ?_;cases hd:fT (s.extract 1 s.size).data.toList 2 16 with
      |none=>exact .inl ⟨rfl,rfl⟩
      |some V=>exact .inr (.inl ⟨V,rfl,rfl,by rw[BX]at hd;exact si (by omega) hd,rfl⟩)
     ·have hx: ∀N,N=4∧c=117∨N=8∧c=85→FO s q w v base k bs (match fT r N 16 with|some v=>if bg v then(fS v,N+1)else([],0)|none=>([],0)):=by
       intro N hN;have hv:(s[0].toNat:Int)=117∧N=4∨(s[0].toNat:Int)=85∧N=8:=hN.imp (fun h=>⟨by rw[hc,h.2];rfl,h.1⟩) fun h=>⟨by rw[hc,h.2];rfl,h.1⟩
       refine BZ H h0 hq' (.inr hv) rfl ?_;rw[ht];cases hd:fT r N 16 with
       |none=>exact .inl ⟨rfl,rfl⟩
       |some V=>
        cases hr:bg V
        ·exact .inr (.inr (.inl ⟨V,rfl,by omega,hr,Uv hd (by omega),by simp[hr]⟩))
        ·exact .inr (.inr (.inr ⟨V,rfl,by omega,hr,by simp[hr]⟩))
      by_cases XM:c=117
      ·rw[afF XM hq];exact hx 4 (.inl ⟨rfl,XM⟩)
      ·by_cases h85:c=85
       ·rw[afG h85 hq];exact hx 8 (.inr ⟨rfl,h85⟩)
       ·rw[Ye hp' h92 hq XL XM h85,←hl];refine Mw H h0 hq' ?_ rfl ?_
        ·simp only[Ig,gL,yu,ll,El,Em,kJ];exact⟨hi 97 (by decide) n1,hi 98 (by decide) n2,hi 116 (by decide) n3,hi 110 (by decide) n4,hi 118 (by decide) n5,hi 102 (by decide) n6,hi 114 (by decide) n7,hi 92 (by decide) h92,hi 120 (by decide) XL,hi 117 (by decide) XM,hi 85 (by decide) h85⟩
        ·cases hd:fT s.data.toList 3 8 with
         |none=>exact .inl ⟨rfl,rfl⟩
         |some V=>
          by_cases hV:V≤255
          ·exact .inr (.inr ⟨V,rfl,by omega,by simp[hV]⟩)
          ·exact .inr (.inl ⟨V,rfl,by omega,by simp[hV]⟩)
