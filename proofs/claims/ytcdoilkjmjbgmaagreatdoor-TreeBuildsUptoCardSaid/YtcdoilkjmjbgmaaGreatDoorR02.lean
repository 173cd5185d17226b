import Derived.Test.YtcdoilkjmjbgmaaGreatDoorR01
import Derived.Lib.DecodeN
import Derived.Lib.Strings
/- Part of the proof of YtcdoilkjmjbgmaaGreatDoorCardR: PlB UtfA PlC PlE UtfB UtfC UtfD. -/
set_option maxRecDepth 100000
set_option maxHeartbeats 4000000
set_option linter.unusedVariables false
set_option linter.unusedSimpArgs false
namespace Go.Proofs.YtcdoilkjmjbgmaaGreatDoor
open Go.RowKit
open Tryz
variable {l r bs new:List UInt8} {i n k base j d V:Nat} {a c q x:UInt8} {b m:Int} {s:ByteArray} {P:Program} {w0 w w':World} {ops:Array Oper} {rest:List Oper} {o:Oper} {Q:Exit→Act→World→Prop} {v v':Value} {us:List Int} {xs:List Value}
def dec (l:List UInt8) (i:Nat):Nat×Nat:=Lib.decodeN (l.length-i) (l.getD i 0).toNat (l.getD (i+1) 0).toNat (l.getD (i+2) 0).toNat (l.getD (i+3) 0).toNat
theorem wD (s:ByteArray) (i:Nat):s.get! i=s.data.toList.getD i 0:=by
 cases s with
 |mk d=>
  simp only[ByteArray.get!,lA,Array.getElem?_toList];rw[getElem!_def];cases d[i]? <;>rfl
theorem abu (s:ByteArray) (i:Nat):Utf8.decode s i=dec s.data.toList i:=by
 rw[Lib.decode_at,dec,wD,wD,wD,wD,ab]
theorem wj (l:List UInt8) (i:Nat):1≤(dec l i).2:=by
 unfold dec Lib.decodeN
 repeat' split
 all_goals simp
theorem Tw (l:List UInt8) (i:Nat) (h:i<l.length):i+(dec l i).2≤l.length:=by
 unfold dec Lib.decodeN
 repeat' split
 all_goals simp
 all_goals omega
def bad (l:List UInt8) (i:Nat):Bool:=dec l i==(65533,1)
def Su (l:List UInt8):Nat→Nat→Bool
 |0,_=>true
 |f+1,i=>if i<l.length then(if bad l i then false else Su l f (i+(dec l i).2))else true
def valid (l:List UInt8):Bool:=Su l l.length 0
theorem wm (l:List UInt8) (f i:Nat) (h:l.length≤i):Su l f i=true:=by
 cases f with
 |zero=>rfl
 |succ f=>rw[Su,af (by omega)]
theorem Jq (l:List UInt8): ∀(f g i:Nat),l.length-i≤f→l.length-i≤g→Su l f i=Su l g i
 |0,g,i,hf,_=>by rw[wm l 0 i (by omega),wm l g i (by omega)]
 |f+1,0,i,_,hg=>by rw[wm l 0 i (by omega),wm l (f+1) i (by omega)]
 |f+1,g+1,i,hf,hg=>by
  rw[Su,Su];have:=wj l i;by_cases h:i<l.length
  ·rw[au h,au h,Jq l f g _ (by omega) (by omega)]
  ·rw[af h,af h]
def wa (l:List UInt8) (i:Nat):Bool:=Su l (l.length-i) i
theorem Cl (l:List UInt8):wa l 0=valid l:=rfl
theorem EX (h:l.length≤i):wa l i=true:=wm _ _ _ h
theorem EY (h:i<l.length) (hb:bad l i=true):wa l i=false:=by
 unfold wa;obtain⟨f,hf⟩: ∃f,l.length-i=f+1:=⟨l.length-i-1,by omega⟩;rw[hf,Su,au h,hb];rfl
theorem Cm (h:i<l.length) (hb:bad l i=false):wa l (i+(dec l i).2)=wa l i:=by
 unfold wa;obtain⟨f,hf⟩: ∃f,l.length-i=f+1:=⟨l.length-i-1,by omega⟩;rw[hf,Su,au h,hb];have:=wj l i;exact Jq l _ _ _ (by omega) (by omega)
def Gb (l:List UInt8) (i:Nat):Bool:=(l.drop i).take 3==[239,191,189]
theorem ZU (l:List UInt8) (i:Nat) (h:i+3≤l.length):(l.drop i).take 3=[l.getD i 0,l.getD (i+1) 0,l.getD (i+2) 0]:=by
 apply I6
 ·simp;omega
 ·intro j h1 h2;simp at h2;simp only[I3,vR]
  match j,h2 with
  |0,_=>simp[lA,eG (show i<l.length by omega)]
  |1,_=>simp[lA,eG (show i+1<l.length by omega)]
  |2,_=>simp[lA,eG (show i+2<l.length by omega)]
theorem yU (hn:n<256):a=UInt8.ofNat n↔a.toNat=n:=by
 constructor
 ·intro h;subst h;simp;omega
 ·intro h;apply Bh.1;simp;omega
theorem Uq (h:(l.getD i 0).toNat=n) (hn:0<n):i<l.length:=by
 rcases dF i l.length with h'|h'
 ·exact h'
 ·rw[lA,Ew h']at h;simp at h;omega
theorem Ur (l:List UInt8) (i:Nat):Gb l i=true↔(l.getD i 0).toNat=239∧(l.getD (i+1) 0).toNat=191∧(l.getD (i+2) 0).toNat=189:=by
 unfold Gb;rw[cC];constructor
 ·intro h;have hl:i+3≤l.length:=by
   have:=cz List.length h;simp at this;omega
  rw[ZU l i hl]at h;simp only[vD,kS]at h;obtain⟨h1,h2,h3⟩:=h;rw[h1,h2,h3];decide
 ·rintro⟨h1,h2,h3⟩;have hl:i+2<l.length:=Uq h3 (by omega);rw[ZU l i (by omega),(yU (by omega)).2 h1,(yU (by omega)).2 h2,(yU (by omega)).2 h3];decide
theorem Us (l:List UInt8) (i:Nat) (h:i<l.length):bad l i=((dec l i).1==65533&& !Gb l i):=by
 have aW:(l.getD (i+1) 0).toNat<256:=(l.getD (i+1) 0).toNat_lt;have aN:(l.getD (i+2) 0).toNat<256:=(l.getD (i+2) 0).toNat_lt;have vr:(l.getD i 0).toNat<256:=(l.getD i 0).toNat_lt;have hr:=Ur l i;have xz:2<l.length-i∨(l.getD (i+2) 0).toNat=0:=by
  rcases dF (i+2) l.length with h'|h'
  ·left;omega
  ·right;rw[lA,Ew h'];rfl
 rw[eH];simp only[bad,cC,kN,Bool.not_eq_true'];rw[Bool.eq_false_iff,ne_eq,hr];unfold dec Lib.decodeN;generalize (l.getD i 0).toNat=b0 at*
 generalize (l.getD (i+1) 0).toNat=b1 at*
 generalize (l.getD (i+2) 0).toNat=b2 at*
 generalize (l.getD (i+3) 0).toNat=b3 at*
 clear hr
 repeat' split
 all_goals (simp only[vV];try dsimp only)
 all_goals first|omega|(simp only[vZ,true_iff,not_and];omega)|(simp;omega)
def bq (n:Nat):Bool:=decide (n<55296)||(decide (57344≤n)&&decide (n≤1114111))
def fZ (n:Nat):List UInt8:=
 if n<128 then[UInt8.ofNat n]
 else if n<2048 then[UInt8.ofNat (192+n/64),UInt8.ofNat (128+n%64)]
 else if n<65536 then[UInt8.ofNat (224+n/4096),UInt8.ofNat (128+n/64%64),UInt8.ofNat (128+n%64)]
 else[UInt8.ofNat (240+n/262144),UInt8.ofNat (128+n/4096%64),UInt8.ofNat (128+n/64%64),UInt8.ofNat (128+n%64)]
theorem xX (n:Nat):1≤(fZ n).length∧(fZ n).length≤4:=by
 unfold fZ;repeat' split
 all_goals simp
def fc (c:UInt8):Option Nat:=
 if 48≤c.toNat∧c.toNat≤57 then some (c.toNat-48)
 else if 97≤c.toNat∧c.toNat≤102 then some (c.toNat-87)
 else if 65≤c.toNat∧c.toNat≤70 then some (c.toNat-55)else none
def fD (base:Nat):Nat→List UInt8→Option Nat
 |v,[]=>some v
 |v,c::r=>match fc c with
  |some d=>if d<base then fD base (v*base+d) r else none
  |none=>none
def fk (l:List UInt8) (n base:Nat):Option Nat:=if l.length<n then none else fD base 0 (l.take n)
def fr (base:Nat):Nat→List UInt8→Option Nat
 |v,[]=>some v
 |v,c::r=>match fc c with
  |some d=>if d<base∧v≤8388607 then fr base (v*base+d) r else none
  |none=>none
def gd (l:List UInt8) (n base:Nat):Option Nat:=if l.length<n then none else fr base 0 (l.take n)
def eK (q:UInt8):List UInt8→Option Nat
 |[]=>none
 |[c]=>if c=q then some 1 else none
 |c::d::r=>
  if c=q then some 1
  else if q=96 then(eK q (d::r)).map (· +1)
  else if c=10 then none
  else if c=92 then(if d=10 then none else(eK q r).map (· +2))
  else(eK q (d::r)).map (· +1)
def dD (c:UInt8):Bool:=c==34||c==39||c==96
def bH (l:List UInt8) (i:Nat):Option Nat:=if i<l.length∧dD (aq l i)=true then(eK (aq l i) (l.drop (i+1))).map (· +(i+1))else none
def eh (q:UInt8) (l:List UInt8) (i:Nat):Option Nat:=(eK q (l.drop i)).map (· +i)
theorem GC {o:Option Nat} {a b c:Nat} (h:c=a+b):(o.map (· +a)).map (· +b)=o.map (· +c):=by
 cases o<;>simp;omega
theorem zh (h:l.length≤i):eh q l i=none:=by
 rw[eh,uD h];rfl
theorem drop_at (h:i<l.length):l.drop i=aq l i::l.drop (i+1):=by
 rw[pq h,aq,lA,eG h];rfl
theorem OU:eK q (q::r)=some 1:=by
 cases r<;>simp[eK]
theorem Kl (h:i<l.length) (hc:aq l i=q):eh q l i=some (i+1):=by
 rw[eh,drop_at h,hc,OU];simp;omega
theorem Qu (hc:c≠96):eK 96 (c::r)=(eK 96 r).map (· +1):=by
 cases r<;>simp[eK,hc]
theorem Km (h:i<l.length) (hc:aq l i≠96):eh 96 l i=eh 96 l (i+1):=by
 rw[eh,drop_at h,Qu hc,GC (c:=i+1) (by omega)];rfl
theorem Ut (h:q≠96) (h2:q≠10):eK q (10::r)=none:=by
 cases r<;>simp[eK,h,h2.symm]
theorem MF (h:i<l.length) (hq:q≠96) (uw:aq l i≠q) (hc:aq l i=10):eh q l i=none:=by
 rw[eh,drop_at h,hc,Ut hq (by rw[←hc];exact uw.symm)];rfl
theorem Kn (h:q≠96) (h1:c≠q) (h2:c≠10) (h3:c≠92):eK q (c::r)=(eK q r).map (· +1):=by
 cases r<;>simp[eK,h,h1,h2,h3]
theorem D0 (h:i<l.length) (hq:q≠96) (h1:aq l i≠q) (h2:aq l i≠10) (h3:aq l i≠92):eh q l i=eh q l (i+1):=by
 rw[eh,drop_at h,Kn hq h1 h2 h3,GC (c:=i+1) (by omega)];rfl
theorem Ai (h:i+1=l.length) (h1:aq l i≠q):eh q l i=none:=by
 rw[eh,drop_at (by omega),uD (by omega)];simp[eK,h1]
theorem Df (h:i+1<l.length) (hq:q≠96) (h1:aq l i≠q) (h2:aq l i=92) (h3:aq l (i+1)=10):eh q l i=none:=by
 rw[eh,drop_at (by omega),drop_at h,h3];rw[h2]at h1 ⊢
 simp[eK,h1,hq]
theorem Ko (h:i+1<l.length) (hq:q≠96) (h1:aq l i≠q) (h2:aq l i=92) (h3:aq l (i+1)≠10):eh q l i=eh q l (i+2):=by
 rw[eh,drop_at (by omega),drop_at h];rw[h2]at h1 ⊢
 simp only[eK,af h1,af hq,af (show ¬(92:UInt8)=10 by decide),au,af h3];rw[GC (c:=i+2) (by omega)];rfl
def lG (c:UInt8):UInt8:=if c=97 then 7 else if c=98 then 8 else if c=116 then 9 else if c=110 then 10 else if c=118 then 11 else if c=102 then 12 else 13
def eA (c:UInt8):Bool:=c==97||c==98||c==116||c==110||c==118||c==102||c==114
def dJ (q:UInt8) (l:List UInt8):Option (List UInt8×Nat):=match l with
 |[]=>none
 |c::r=>
  if eA c then some ([lG c],1)
  else if c=92∨c=q then some ([c],1)
  else if c=120 then(fk r 2 16).map fun v=>([UInt8.ofNat v],3)
  else if c=117 then(fk r 4 16).bind fun v=>if bq v then some (fZ v,5)else none
  else if c=85 then(fk r 8 16).bind fun v=>if bq v then some (fZ v,9)else none
  else(fk (c::r) 3 8).bind fun v=>if v≤255 then some ([UInt8.ofNat v],3)else none
def kW (q:UInt8):Nat→List UInt8→Option (List UInt8)
 |0,_=>some []
 |_+1,[]=>some []
 |f+1,c::r=>if c≠92 then(kW q f r).map (c:: ·)else
  match dJ q r with
  |none=>none
  |some (b,n)=>(kW q f (r.drop n)).map (b++ ·)
def lV (l:List UInt8):Nat×List UInt8:=
 if valid l=false then(4,[])
 else if bH l 0≠some l.length then(10,[])
 else if aq l 0=96 then(0,(l.drop 1).take (l.length-2))
 else match kW (aq l 0) l.length ((l.drop 1).take (l.length-2))with
  |none=>(11,[])
  |some b=>if valid b then(0,b)else(13,[])
theorem xc (s:ByteArray) (i:Nat) (w:World) (hs:s.size≤281474976710656) (hi:i<s.size):
  Calls prog 102 #[.string s,.int .i64 (i:Int)] w fun e w'=>e= .returned (.bool (Gb s.data.toList i))∧w=w':=by
 by_cases h3:i+3≤s.size
 ·have hr:Gb s.data.toList i=((s.extract i (i+3)).toList==[239,191,189]):=by
   rw[Gb,nS,Lib.extract_data,Nat.add_sub_cancel_left]
  have HR:=aa hr;clear hr;go_enter func102,ntmps102;go_wp2_with fail;go_ret;exact⟨ah (by rw[HR.out]),rfl⟩
 ·have hr:Gb s.data.toList i=false:=by
   cases h:Gb s.data.toList i
   ·rfl
   ·have:=cz List.length (cC.1 h);simp at this;omega
  have HR:=aa hr;clear hr;go_enter func102,ntmps102;go_wp2_with fail;go_ret;exact⟨ah (by rw[HR.out]),rfl⟩
theorem j6 (s:ByteArray) (w:World) (hs:s.size≤281474976710656):
  Calls prog 79 #[.string s] w fun e w'=>e= .returned (.bool (valid s.data.toList))∧Below w.heap.size w w':=by
 have h0:=aa (Cl s.data.toList);go_enter func79,ntmps79;go_wp2_with fail;go_loopw [] (fun w'=> ∃pos:Nat,pos≤s.size∧w'=w.iter s pos∧Hid (wa s.data.toList pos=valid s.data.toList)) (fun w'=>s.size-w'.iterPos w.heap.size)
 case atStart=>exact⟨0,dQ _,rfl,h0.out⟩
 case round=>
  obtain⟨pos,pE,rfl,hv⟩:=hrel;by_cases hp:pos<s.size
  ·have hpl:pos<s.data.toList.length:=by rw[ab];exact hp
   have PE: ∀ty,(Instr.next (.pointer (some ⟨w.heap.size,0,none⟩)) true ty).run prog (w.iter s pos)=_:=fun ty=>run_next_any w s pos ty hp
   have Δ:=abu s pos;rw[Δ]at PE;have Θ:=Us s.data.toList pos hpl;have ej:=wj s.data.toList pos;have xu:=Tw s.data.toList pos hpl;rw[ab]at xu;have dz:=@Cm s.data.toList pos hpl;have hbd:=@EY s.data.toList pos hpl;generalize (dec s.data.toList pos).1=r at Θ PE;generalize (dec s.data.toList pos).2=d at ej xu dz PE;by_cases hr:r=65533
   ·subst hr;cases hrp:Gb s.data.toList pos
    ·have hb:bad s.data.toList pos=true:=by rw[Θ,hrp];rfl
     have HF:=aa ((hbd hb).symm.trans hv.out);clear Θ dz hbd hb Δ;go_wp2_with (go_at_call 102;refine(xc s pos _ hs hp).mono ?_;rintro e w' ⟨rfl,rfl⟩);go_ret;exact⟨ah (by rw[←HF.out]),(aV _ _).alloc (aS _) _⟩
    ·have hb:bad s.data.toList pos=false:=by rw[Θ,hrp];rfl
     have HF:=aa ((dz hb).trans hv.out);clear Θ dz hbd hb Δ;go_wp2_with (go_at_call 102;refine(xc s pos _ hs hp).mono ?_;rintro e w' ⟨rfl,rfl⟩);go_roundw
     case rel=>exact⟨pos+d,by omega,rfl,HF.out⟩
     case measure=>simp;omega
   ·have hb:bad s.data.toList pos=false:=by rw[Θ,bN.2 hr];rfl
    have HF:=aa ((dz hb).trans hv.out);have hrb:((r:Int)==65533)=false:=by rw[bN];omega
    clear Θ dz hbd hb Δ hr;go_wp2_with fail;go_roundw
    case rel=>exact⟨pos+d,by omega,rfl,HF.out⟩
    case measure=>simp;omega
  ·have PE: ∀ty,(Instr.next (.pointer (some ⟨w.heap.size,0,none⟩)) true ty).run prog (w.iter s pos)=_:=fun ty=>run_next_end w s pos ty hp
   have HF:=aa ((EX (l:=s.data.toList) (i:=pos) (by rw[ab];omega)).symm.trans hv.out);go_wp2_with fail;go_ret;exact⟨ah (by rw[←HF.out]),(aV _ _).alloc (aS _) _⟩
def jT (o:Option Nat):Int:=match o with|some n=>n|none=>0
def nY (e:Int) (o:Option Nat):Int:=match o with|some _=>0|none=>e
theorem cM (hn:n<256) (h:a.toNat=n):a=UInt8.ofNat n:=(yU hn).2 h
theorem Aj (s:ByteArray) (i:Nat) (w:World) (hi:s.size≤i):
  Calls prog 149 #[.string s,.int .i64 (i:Int)] w fun e w'=>e= .returned (.tuple #[.int .i64 0,.int .i64 10])∧w=w':=by
 go_enter func149,ntmps149;go_wp2_with fail;go_ret2;exact⟨rfl,rfl⟩
theorem Dg (s:ByteArray) (i:Nat) (w:World) (hi:i<s.size) (h1:s[i].toNat<34∨34<s[i].toNat) (h2:s[i].toNat<39∨39<s[i].toNat) (h3:s[i].toNat<96∨96<s[i].toNat):
  Calls prog 149 #[.string s,.int .i64 (i:Int)] w fun e w'=>e= .returned (.tuple #[.int .i64 0,.int .i64 10])∧w=w':=by
 have b1:((s[i].toNat:Int) != 34)=true:=by rw[jA];omega
 have b2:((s[i].toNat:Int) != 39)=true:=by rw[jA];omega
 have b3:((s[i].toNat:Int) != 96)=true:=by rw[jA];omega
 clear h1 h2 h3;go_enter func149,ntmps149;go_wp2_with fail;go_ret2;exact⟨rfl,rfl⟩
theorem jx {a:Int} (h:(a==b)=true):a=b:=cC.1 h
theorem kJ {a:Int} (h:(a==b)=false):a≠b:=bN.1 h
theorem u8T {b:UInt8} (h:((a.toNat:Int)==(b.toNat:Int))=true):a=b:=by
 have:=jx h;exact Bh.1 (by omega)
theorem Lt {b:UInt8} (h:((a.toNat:Int)==(b.toNat:Int))=false):a≠b:=by
 rintro rfl;simp at h
theorem ox (hn:n<256) (hm:m=n) (h:((a.toNat:Int)==m)=true):a=UInt8.ofNat n:=
 cM hn (by have:=jx h;omega)
theorem pF (hn:n<256) (hm:m=n) (h:((a.toNat:Int)==m)=false):a≠UInt8.ofNat n:=by
 intro e;have:=(yU hn).1 e;exact kJ h (by omega)
def fe (s:ByteArray) (q:UInt8) (T:Option Nat) (k:Nat):Prop:=k≤s.size+1∧eh q s.data.toList k=T
theorem AF {T:Option Nat} (h:fe s q T k) (hk:s.size≤k):T=none:=by
 rw[←h.2,zh (by rw[ab];exact hk)]
theorem AG {T:Option Nat} (h:fe s q T k) (hk:k<s.size) (hq:s[k]=q):T=some (k+1):=by
 rw[←h.2,Kl (by rw[ab];exact hk) (by rw[ar hk];exact hq)]
theorem OV {T:Option Nat} (h:fe s q T k) (hr:q=96) (hk:k<s.size) (hq:s[k]≠q):fe s q T (k+1):=by
 subst hr;exact⟨by omega,(Km (by rw[ab];exact hk) (by rw[ar hk];exact hq)).symm.trans h.2⟩
theorem TT {T:Option Nat} (h:fe s q T k) (hr:q≠96) (hk:k<s.size) (hq:s[k]≠q) (hn:s[k]=10):T=none:=by
 rw[←h.2,MF (by rw[ab];exact hk) hr (by rw[ar hk];exact hq) (by rw[ar hk];exact hn)]
theorem EZ {T:Option Nat} (h:fe s q T k) (hr:q≠96) (hk:k<s.size) (hq:s[k]≠q) (hn:s[k]≠10) (hb:s[k]≠92):fe s q T (k+1):=
 ⟨by omega,(D0 (by rw[ab];exact hk) hr (by rw[ar hk];exact hq) (by rw[ar hk];exact hn) (by rw[ar hk];exact hb)).symm.trans h.2⟩
theorem nG {T:Option Nat} (h:fe s q T k) (hk:k+1=s.size) (hq:s[k]'(by omega)≠q):fe s q T (k+2):=by
 refine⟨by omega,?_⟩;rw[←h.2,zh (by rw[ab];omega),Ai (by rw[ab];exact hk) (by rw[ar (by omega)];exact hq)]
theorem Cn {T:Option Nat} (h:fe s q T k) (hr:q≠96) (hk:k+1<s.size) (hq:s[k]≠q) (hb:s[k]=92) (hn:s[k+1]=10):T=none:=by
 rw[←h.2,Df (by rw[ab];exact hk) hr (by rw[ar (by omega)];exact hq) (by rw[ar (by omega)];exact hb) (by rw[ar hk];exact hn)]
theorem AH {T:Option Nat} (h:fe s q T k) (hr:q≠96) (hk:k+1<s.size) (hq:s[k]≠q) (hb:s[k]=92) (hn:s[k+1]≠10):fe s q T (k+2):=
 ⟨by omega,(Ko (by rw[ab];exact hk) hr (by rw[ar (by omega)];exact hq) (by rw[ar (by omega)];exact hb) (by rw[ar hk];exact hn)).symm.trans h.2⟩
theorem iS {T U:Option Nat} {a:Int} (h:T=U) (ha:a=jT U) (hb:b=nY 10 U):Ending.returned (.tuple #[.int .i64 a,.int .i64 b])= .returned (.tuple #[.int .i64 (jT T),.int .i64 (nY 10 T)]):=by
 subst h ha hb;rfl
theorem Ak (s:ByteArray) (i:Nat) (w:World) (hs:s.size≤281474976710656) (hi:i<s.size) (T:Option Nat) (hT:fe s s[i] T (i+1)) (hq:s[i]=96)
  (aW:((s[i].toNat:Int) != 34)=true) (aN:((s[i].toNat:Int) != 39)=true) (bW:((s[i].toNat:Int) != 96)=false) (fg:((s[i].toNat:Int)==96)=true):
  Calls prog 149 #[.string s,.int .i64 (i:Int)] w fun e w'=>e= .returned (.tuple #[.int .i64 (jT T),.int .i64 (nY 10 T)])∧w=w':=by
 have tE:decide ((i:Int)<0)=false:=by simp
 have hi1:decide (s.size≤i)=false:=by simpa using hi
 have xv:decide ((s.size:Int)≤(i:Int))=false:=by simpa using hi
 have HT:=aa hT;have HQ:=aa hq;clear hT hq
 all_goals
  go_enter func149,ntmps149;go_wp2_with fail;go_loop [7] (fun t=> ∃k:Nat,k≤s.size+1∧t= .int .i64 k∧fe s s[i] T k) (fun t=>s.size+1-(intOf t).toNat)
  case atStart=>exact⟨i+1,by omega,by go_num,HT.out⟩
  case round=>
   obtain⟨k,hk,rfl,hrel⟩:=hrel;clear HT;have HR:=aa hrel;clear hrel;by_cases ax:k<s.size
   ·cases h1:((s[k].toNat:Int)==(s[i].toNat:Int))
    ·go_wp2_with fail;go_round
     case rel=>exact⟨k+1,by omega,by go_num,OV HR.out HQ.out ax (Lt h1)⟩
     case measure=>simp[intOf];omega
    ·go_wp2_with fail;go_ret2;exact⟨iS (AG HR.out ax (u8T h1)) (by simp[jT]) rfl,rfl⟩
   ·go_wp2_with fail;go_ret2;exact⟨iS (AF HR.out (by omega)) rfl rfl,rfl⟩
theorem qG (s:ByteArray) (i:Nat) (w:World) (hs:s.size≤281474976710656) (hi:i<s.size) (T:Option Nat) (hT:fe s s[i] T (i+1)) (hq:s[i]≠96)
  (b1 b2:Bool) (aW:((s[i].toNat:Int) != 34)=b1) (aN:((s[i].toNat:Int) != 39)=b2) (fg:((s[i].toNat:Int)==96)=false) (yB:(b1&&b2)=false):
  Calls prog 149 #[.string s,.int .i64 (i:Int)] w fun e w'=>e= .returned (.tuple #[.int .i64 (jT T),.int .i64 (nY 10 T)])∧w=w':=by
 have tE:decide ((i:Int)<0)=false:=by simp
 have hi1:decide (s.size≤i)=false:=by simpa using hi
 have xv:decide ((s.size:Int)≤(i:Int))=false:=by simpa using hi
 have HT:=aa hT;have HQ:=aa hq;clear hT hq;cases b1<;>cases b2<;>first|(simp at yB;done)|skip
 all_goals
  clear yB;go_enter func149,ntmps149;go_wp2_with fail;go_loop [7] (fun t=> ∃k:Nat,k≤s.size+1∧t= .int .i64 k∧fe s s[i] T k) (fun t=>s.size+1-(intOf t).toNat)
  case atStart=>exact⟨i+1,by omega,by go_num,HT.out⟩
  case round=>
   obtain⟨k,hk,rfl,hrel⟩:=hrel;clear HT;have HR:=aa hrel;clear hrel;by_cases ax:k<s.size
   ·cases h1:((s[k].toNat:Int)==(s[i].toNat:Int))
    ·cases h2:((s[k].toNat:Int)==10)
     ·cases h3:((s[k].toNat:Int)==92)
      ·go_wp2_with fail;go_round
       case rel=>exact⟨k+1,by omega,by go_num,EZ HR.out HQ.out ax (Lt h1) (pF (n:=10) (by omega) rfl h2) (pF (n:=92) (by omega) rfl h3)⟩
       case measure=>simp[intOf];omega
      ·by_cases nZ:k+1<s.size
       ·cases h4:((s[k+1].toNat:Int)==10)
        ·go_wp2_with fail;go_round
         case rel=>first|exact⟨k+2,by omega,by go_num,AH HR.out HQ.out nZ (Lt h1) (ox (n:=92) (by omega) rfl h3) (pF (n:=10) (by omega) rfl h4)⟩|((repeat apply Exists.intro);exact⟨⟨k+2,by omega,by go_num,AH HR.out HQ.out nZ (Lt h1) (ox (n:=92) (by omega) rfl h3) (pF (n:=10) (by omega) rfl h4)⟩,rfl⟩)
         case measure=>simp[intOf];omega
        ·go_wp2_with fail;go_ret2;exact⟨iS (Cn HR.out HQ.out nZ (Lt h1) (ox (n:=92) (by omega) rfl h3) (ox (n:=10) (by omega) rfl h4)) rfl rfl,rfl⟩
       ·go_wp2_with fail;go_round
        case rel=>first|exact⟨k+2,by omega,by go_num,nG HR.out (by omega) (Lt h1)⟩|((repeat apply Exists.intro);exact⟨⟨k+2,by omega,by go_num,nG HR.out (by omega) (Lt h1)⟩,rfl⟩)
        case measure=>simp[intOf];omega
     ·go_wp2_with fail;go_ret2;exact⟨iS (TT HR.out HQ.out ax (Lt h1) (ox (n:=10) (by omega) rfl h2)) rfl rfl,rfl⟩
    ·go_wp2_with fail;go_ret2;exact⟨iS (AG HR.out ax (u8T h1)) (by simp[jT]) rfl,rfl⟩
   ·go_wp2_with fail;go_ret2;exact⟨iS (AF HR.out (by omega)) rfl rfl,rfl⟩
theorem qk {base:Nat}: ∀{l:List UInt8} {v r:Nat},fr base v l=some r→fD base v l=some r
 |[],v,r,h=>by simpa [fr,fD]using h
 |c::l,v,r,h=>by
  simp only[fr]at h;simp only[fD];cases hd:fc c with
  |none=>rw[hd]at h;simp at h
  |some d=>
   rw[hd]at h;simp only at h ⊢
   by_cases hb:d<base∧v≤8388607
   ·rw[au hb]at h;rw[au hb.1];exact qk h
   ·rw[af hb]at h;simp at h
theorem E0 {base:Nat} (hb:1≤base): ∀{l:List UInt8} {v r:Nat},fD base v l=some r→v≤r
 |[],v,r,h=>by simp[fD]at h;omega
 |c::l,v,r,h=>by
  simp only[fD]at h;cases hd:fc c with
  |none=>rw[hd]at h;simp at h
  |some d=>
   rw[hd]at h;simp only at h;split at h
   ·have:=E0 hb h;have h2:v*1≤v*base:=uE v hb;omega
   ·simp at h
theorem sf {base:Nat} (hb:1≤base): ∀{l:List UInt8} {v r:Nat},fD base v l=some r→r≤8388607→fr base v l=some r
 |[],v,r,h,_=>by simpa [fr,fD]using h
 |c::l,v,r,h,hr=>by
  have hv:=E0 hb h;simp only[fD]at h;simp only[fr];cases hd:fc c with
  |none=>rw[hd]at h;simp at h
  |some d=>
   rw[hd]at h;simp only at h ⊢
   by_cases Sv:d<base
   ·rw[au Sv]at h;rw[au ⟨Sv,by omega⟩];exact sf hb h hr
   ·rw[af Sv]at h;simp at h
theorem BO (hb:1≤base) (hn: ∀r,fk l n base=some r→r≤8388607):gd l n base=fk l n base:=by
 unfold gd;unfold fk at hn ⊢
 split
 ·rfl
 ·rename_i hl;rw[af hl]at hn;cases h:fD base 0 (l.take n)with
  |some r=>exact sf hb h (hn r h)
  |none=>
   cases h':fr base 0 (l.take n)with
   |none=>rfl
   |some r=>rw[qk h']at h;simp at h
theorem E1 {base:Nat}: ∀{l:List UInt8} {v r:Nat},fD base v l=some r→r<(v+1)*base^l.length
 |[],v,r,h=>by simp[fD]at h;simp;omega
 |c::l,v,r,h=>by
  simp only[fD]at h;cases hd:fc c with
  |none=>rw[hd]at h;simp at h
  |some d=>
   rw[hd]at h;simp only at h;split at h
   ·rename_i Sv;have:=E1 h;have h2:v*base+d+1≤(v+1)*base:=by rw[oB];omega
    have h3:=fi (base^l.length) h2;rw[dZ,et,fA (base^l.length) base,←ct];omega
   ·simp at h
theorem sM {r:Nat} (hb:1≤base) (h:fk l n base=some r):r<base^n:=by
 unfold fk at h;split at h
 ·simp at h
 ·have:=E1 h;have h2:(l.take n).length≤n:=List.length_take_le n l;have h3:=ek hb h2;omega
theorem Co (l:List UInt8):gd l 2 16=fk l 2 16:=BO (by omega) fun r h=>by have:=sM (by omega) h;omega
theorem MG (l:List UInt8):gd l 4 16=fk l 4 16:=BO (by omega) fun r h=>by have:=sM (by omega) h;omega
theorem Qv (l:List UInt8):gd l 3 8=fk l 3 8:=BO (by omega) fun r h=>by have:=sM (by omega) h;omega
theorem uN (h:bq n=true):n≤1114111:=by simp[bq]at h;omega
theorem MH (l:List UInt8) (F:Nat→Option (List UInt8×Nat)):((gd l 8 16).bind fun v=>if bq v then F v else none)=((fk l 8 16).bind fun v=>if bq v then F v else none):=by
 unfold gd fk;split
 ·rfl
 ·cases h:fr 16 0 (l.take 8)with
  |some r=>rw[qk h]
  |none=>
   cases h':fD 16 0 (l.take 8)with
   |none=>rfl
   |some r=>
    cases hr:bq r
    ·simp[hr]
    ·rw[sf (by omega) h' (by have:=uN hr;omega)]at h;simp at h
def rk (q:UInt8) (l:List UInt8):List UInt8×Nat:=(dJ q l).getD ([],0)
theorem Qw (h:eA c=true):rk q (c::r)=([lG c],1):=by simp[rk,dJ,h]
theorem Jr (h:eA c=false) (h2:c=92∨c=q):rk q (c::r)=([c],1):=by simp[rk,dJ,h,h2]
theorem afp (hc:c=120) (hq:c≠q):rk q (c::r)=match gd r 2 16 with|some v=>([UInt8.ofNat v],3)|none=>([],0):=by
 subst hc;rw[Co];have h1: ¬((120:UInt8)=92∨(120:UInt8)=q):=by rintro(h|h)<;>first|exact hq h|exact absurd h (by decide)
 have h0:eA 120=false:=by decide
 unfold rk dJ;simp only[h0,h1,iG,kT,lE];cases fk r 2 16<;>rfl
theorem afq (hc:c=117) (hq:c≠q):rk q (c::r)=match gd r 4 16 with|some v=>if bq v then(fZ v,5)else([],0)|none=>([],0):=by
 subst hc;rw[MG];have h1: ¬((117:UInt8)=92∨(117:UInt8)=q):=by rintro(h|h)<;>first|exact hq h|exact absurd h (by decide)
 have h0:eA 117=false:=by decide
 have h2: ¬((117:UInt8)=120):=by decide
 unfold rk dJ;simp only[h0,h1,h2,iG,kT,lE];cases fk r 4 16 with
 |none=>rfl
 |some v=>cases h:bq v<;>simp[h]
theorem afr (hc:c=85) (hq:c≠q):rk q (c::r)=match gd r 8 16 with|some v=>if bq v then(fZ v,9)else([],0)|none=>([],0):=by
 subst hc;have h1: ¬((85:UInt8)=92∨(85:UInt8)=q):=by rintro(h|h)<;>first|exact hq h|exact absurd h (by decide)
 have h0:eA 85=false:=by decide
 have h2: ¬((85:UInt8)=120):=by decide
 have h3: ¬((85:UInt8)=117):=by decide
 unfold rk dJ;simp only[h0,h1,h2,h3,iG,kT,lE];rw[←MH];cases gd r 8 16 with
 |none=>rfl
 |some v=>cases h:bq v<;>simp[h]
theorem X4 (h0:eA c=false) (h1:c≠92) (hq:c≠q) (h2:c≠120) (h3:c≠117) (h4:c≠85):rk q (c::r)=match gd (c::r) 3 8 with|some v=>if v≤255 then([UInt8.ofNat v],3)else([],0)|none=>([],0):=by
 rw[Qv];have h5: ¬(c=92∨c=q):=by rintro(h|h)<;>first|exact hq h|exact h1 h
 unfold rk dJ;simp only[h0,h5,h2,h3,h4,iG,lE];cases fk (c::r) 3 8 with
 |none=>rfl
 |some v=>by_cases h:v≤255<;>simp[h]
theorem gr (s:ByteArray) (k:Nat):(s.extract k s.size).data.toList=s.data.toList.drop k:=by
 rw[Lib.extract_data,A3 (by simp)]
theorem fG (s:ByteArray) (k:Nat):(s.extract 0 k).data.toList=s.data.toList.take k:=by
 rw[Lib.extract_data];simp
def gX (c:UInt8):Bool:=digit c||(97≤c.toNat&&c.toNat≤102)||(65≤c.toNat&&c.toNat≤70)
def tF (c:UInt8):Bool:=c.toNat==101||c.toNat==69
def Aa (c:UInt8):Bool:=c.toNat==43||c.toNat==45
def ux (c:UInt8):Bool:=c.toNat==120||c.toNat==88
def dH (l:List UInt8) (i:Nat):Nat:=if i+1<l.length∧Aa (aq l (i+1))=true then i+2 else i+1
def da (l:List UInt8) (i:Nat):Nat:=
 if l.length≤i∨tF (aq l i)=false then i
 else if dH l i<ae digit l (dH l i)then ae digit l (dH l i)else i
def aR (l:List UInt8):Bool:=decide (2<l.length)&&(aq l 0).toNat==48&&ux (aq l 1)&&gX (aq l 2)
def aJ (l:List UInt8):Nat:=
 if ae digit l 0<l.length∧(aq l (ae digit l 0)).toNat=46∧0<ae digit l 0 then ae digit l (ae digit l 0+1)
 else if ae digit l 0=0∧1<l.length∧(aq l 0).toNat=46∧digit (aq l 1)=true then ae digit l 1
 else ae digit l 0
def ag (l:List UInt8):Nat:=
 if aR l=true then ae gX l 2 else if aJ l=0 then 0 else da l (aJ l)
theorem nH (l:List UInt8) (i:Nat) (h:i<l.length):i+1≤dH l i∧dH l i≤l.length:=by
 unfold dH;split<;>omega
theorem mj (l:List UInt8) (i:Nat) (h:i≤l.length):i≤da l i∧da l i≤l.length:=by
 unfold da;split
 ·omega
 ·have h1:=nH l i (by omega);have h2:=bL digit l (dH l i) h1.2;split<;>omega
theorem ml (l:List UInt8):aJ l≤l.length:=by
 unfold aJ;have h0:=bL digit l 0 (dQ _);split
 ·exact bL digit l _ (by omega)
 ·split
  ·exact bL digit l _ (by omega)
  ·exact h0
theorem ql (l:List UInt8):ag l≤l.length:=by
 unfold ag;split
 ·rename_i h;simp[aR]at h;exact bL gX l 2 (by omega)
 ·split
  ·omega
  ·exact(mj l _ (ml l)).2
theorem afs (h:aR s.data.toList=false) (hk:ae digit s.data.toList 0=k) (h1:k<s.size) (h2:((s[k].toNat:Int)==46)=true) (h3:0<k):ag s.data.toList=da s.data.toList (ae digit s.data.toList (k+1)):=by
 have h4:s[k].toNat=46:=by have:(s[k].toNat:Int)=46:=cC.1 h2;omega
 have h5:aJ s.data.toList=ae digit s.data.toList (k+1):=by
  rw[aJ,hk,au ⟨by rw[ab];exact h1,by rw[ar h1];exact h4,h3⟩]
 have:=aX digit s.data.toList (k+1);rw[ag,h,h5,af (by simp),af (by omega)]
theorem aft (h:aR s.data.toList=false) (hk:ae digit s.data.toList 0=0) (h1:1<s.size) (h2:((s[0].toNat:Int)==46)=true) (h3:digit s[1]=true):ag s.data.toList=da s.data.toList (ae digit s.data.toList 1):=by
 have h4:s[0].toNat=46:=by have:(s[0].toNat:Int)=46:=cC.1 h2;omega
 have h5:aJ s.data.toList=ae digit s.data.toList 1:=by
  rw[aJ,hk,af (by omega),au ⟨rfl,by rw[ab];exact h1,by rw[ar (by omega)];exact h4,by rw[ar h1];exact h3⟩]
 have:=aX digit s.data.toList 1;rw[ag,h,h5,af (by simp),af (by omega)]
theorem afu (h:aR s.data.toList=false) (hk:ae digit s.data.toList 0=k) (h0:k≠0) (h1: ∀h:k<s.size,((s[k].toNat:Int)==46)=false):ag s.data.toList=da s.data.toList k:=by
 have h5:aJ s.data.toList=k:=by
  rw[aJ,hk,af,af (by omega)];rintro⟨ha,hb,_⟩;rw[ab]at ha;rw[ar ha]at hb;have:=bN.1 (h1 ha);omega
 rw[ag,h,h5,af (by simp),af h0]
theorem afv (h:aR s.data.toList=false) (hk:ae digit s.data.toList 0=0) (h1: ∀h:1<s.size,((s[0].toNat:Int)==46)=true→digit s[1]=false):ag s.data.toList=0:=by
 have h5:aJ s.data.toList=0:=by
  rw[aJ,hk,af (by omega),af];rintro⟨_,ha,hb,hc⟩;rw[ab]at ha;rw[ar (by omega)]at hb;rw[ar ha,h1 ha (by rw[cC];omega)]at hc;simp at hc
 rw[ag,h,h5,af (by simp),au rfl]
theorem X5 (h:aR s.data.toList=true): ∃h:2<s.size,((s[0].toNat:Int)==48)=true∧gX s[2]=true∧((((s[1].toNat:Int)==120)=true)∨(((s[1].toNat:Int)==120)=false∧((s[1].toNat:Int)==88)=true)):=by
 simp only[aR,kN,uF,ab]at h;obtain⟨⟨⟨h1,h2⟩,h3⟩,h4⟩:=h;rw[ar (by omega)]at h2 h3;rw[ar h1]at h4;refine⟨h1,by simp at h2 ⊢;omega,h4,?_⟩;simp[ux]at h3 ⊢
 omega
theorem abv (h:aR s.data.toList=false): ¬2<s.size∨ ∃h:2<s.size,((s[0].toNat:Int)==48)=false∨((s[0].toNat:Int)==48)=true∧((((s[1].toNat:Int)==120)=false∧((s[1].toNat:Int)==88)=false)∨((s[1].toNat:Int)==120)=true∧gX s[2]=false∨((s[1].toNat:Int)==120)=false∧((s[1].toNat:Int)==88)=true∧gX s[2]=false):=by
 by_cases h1:2<s.size
 ·refine .inr ⟨h1,?_⟩;simp only[aR,ab,dR h1,mC]at h;rw[ar (by omega),ar (by omega),ar h1]at h;cases h2:((s[0].toNat:Int)==48)
  ·exact .inl rfl
  ·refine .inr ⟨rfl,?_⟩;have h2':(s[0].toNat==48)=true:=by simp at h2 ⊢;omega
   rw[h2',mC]at h;cases h3:((s[1].toNat:Int)==120)
   ·cases h4:((s[1].toNat:Int)==88)
    ·exact .inl ⟨rfl,rfl⟩
    ·have:ux s[1]=true:=by simp[ux]at h4 ⊢;omega
     rw[this,mC]at h;exact .inr (.inr ⟨rfl,rfl,h⟩)
   ·have:ux s[1]=true:=by simp[ux]at h3 ⊢;omega
    rw[this,mC]at h;exact .inr (.inl ⟨rfl,h⟩)
 ·exact .inl h1
theorem MJ (h:(i:Int)=(s.size:Int)):da s.data.toList i=i:=by
 rw[da,au (.inl (by rw[ab];omega))]
theorem Qx (h:i<s.size) (h1:(s[i].toNat:Int)≠101) (h2:(s[i].toNat:Int)≠69):da s.data.toList i=i:=by
 rw[da,au (.inr (by rw[ar h,tF];simp;omega))]
theorem Js (h:i+1<s.size) (h2:(s[i+1].toNat:Int)=43∨(s[i+1].toNat:Int)=45):dH s.data.toList i=i+2:=by
 rw[dH,au ⟨by rw[ab];exact h,by rw[ar h,Aa];simp;omega⟩]
theorem Jt (h2: ∀h:i+1<s.size,(s[i+1].toNat:Int)≠43∧(s[i+1].toNat:Int)≠45):dH s.data.toList i=i+1:=by
 rw[dH,af];rintro⟨ha,hb⟩;rw[ab]at ha;rw[ar ha,Aa]at hb;have:=h2 ha;simp at hb;omega
theorem MK (h:i<s.size) (h1:(s[i].toNat:Int)=101∨(s[i].toNat:Int)=69) (hj:dH s.data.toList i=j) (hk:ae digit s.data.toList j=k) (ax:j<k):da s.data.toList i=k:=by
 rw[da,hj,hk,af,au ax];rw[ab,ar h,tF];simp;omega
theorem Kq (hj:dH s.data.toList i=j) (hk:ae digit s.data.toList j=k) (ax: ¬j<k):da s.data.toList i=i:=by
 rw[da,hj,hk,af ax,ite_self]
theorem nI (s:ByteArray) (i:Nat) (w:World) (hs:s.size≤281474976710656):
  Calls prog 149 #[.string s,.int .i64 (i:Int)] w fun e w'=>e= .returned (.tuple #[.int .i64 (jT (bH s.data.toList i)),.int .i64 (nY 10 (bH s.data.toList i))])∧w=w':=by
 by_cases hi:i<s.size
 ·have Sw:i<s.data.toList.length:=by rw[ab];exact hi
  have cL:=ar hi;by_cases hq:dD s[i]=true
  ·have hT:fe s s[i] (bH s.data.toList i) (i+1):=by
    refine⟨by omega,?_⟩;rw[bH,au ⟨Sw,by rw[cL];exact hq⟩,cL];rfl
   by_cases Sx:s[i]=96
   ·have e:s[i].toNat=96:=by rw[Sx];rfl
    exact Ak s i w hs hi _ hT Sx (by rw[jA];omega) (by rw[jA];omega) (by rw[e];rfl) (by rw[e];rfl)
   ·have e:s[i].toNat=34∨s[i].toNat=39:=by
     simp only[dD,tP,cC]at hq;rcases hq with(h|h)|h
     ·left;rw[h];rfl
     ·right;rw[h];rfl
     ·exact absurd h Sx
    rcases e with e|e
    ·exact qG s i w hs hi _ hT Sx false true (by rw[e];rfl) (by rw[e];rfl) (by rw[e];rfl) rfl
    ·exact qG s i w hs hi _ hT Sx true false (by rw[e];rfl) (by rw[e];rfl) (by rw[e];rfl) rfl
  ·have hT:bH s.data.toList i=none:=by rw[bH,af];rw[cL];exact fun h=>hq h.2
   rw[hT];have h1:s[i].toNat≠34:=fun e=>hq (by simp[dD,cM (n:=34) (by omega) e])
   have h2:s[i].toNat≠39:=fun e=>hq (by simp[dD,cM (n:=39) (by omega) e])
   have h3:s[i].toNat≠96:=fun e=>hq (by simp[dD,cM (n:=96) (by omega) e])
   exact Dg s i w hi (by omega) (by omega) (by omega)
 ·have hT:bH s.data.toList i=none:=by rw[bH,af];rw[ab];exact fun h=>hi h.1
  rw[hT];exact Aj s i w (by omega)
def mY (c:UInt8):Int:=match fc c with|some d=>d|none=> -1
theorem xY (c:UInt8) (w:World):
  Calls prog 186 #[.int .u8 (c.toNat:Int)] w fun e w'=>e= .returned (.int .i32 (mY c))∧w=w':=by
 by_cases h1:48≤c.toNat∧c.toNat≤57
 ·have hf:=aa (show mY c=(c.toNat:Int)-48 by rw[mY,fc,au h1];simp;omega);obtain⟨h1,h2⟩:=h1;go_enter func186,ntmps186;go_wp2_with fail;go_ret;exact⟨aH (by rw[hf.out]),rfl⟩
 ·by_cases h2:97≤c.toNat∧c.toNat≤102
  ·have hf:=aa (show mY c=(c.toNat:Int)-97+10 by rw[mY,fc,af h1,au h2];simp;omega);obtain⟨h2,h3⟩:=h2;clear h1;go_enter func186,ntmps186;go_wp2_with fail;go_ret;exact⟨aH (by rw[hf.out]),rfl⟩
  ·by_cases h3:65≤c.toNat∧c.toNat≤70
   ·have hf:=aa (show mY c=(c.toNat:Int)-65+10 by rw[mY,fc,af h1,af h2,au h3];simp;omega);obtain⟨h3,h4⟩:=h3;clear h1 h2;go_enter func186,ntmps186;go_wp2_with fail;go_ret;exact⟨aH (by rw[hf.out]),rfl⟩
   ·have hf:=aa (show mY c= -1 by rw[mY,fc,af h1,af h2,af h3]);have hc:c.toNat<48∨(57<c.toNat∧c.toNat<65)∨(70<c.toNat∧c.toNat<97)∨102<c.toNat:=by omega
    clear h1 h2 h3;rcases hc with h|⟨h,h'⟩|⟨h,h'⟩|h
    all_goals
     go_enter func186,ntmps186;go_wp2_with fail;go_ret;exact⟨aH (by rw[hf.out]),rfl⟩
theorem Qy (c:UInt8) (w:World):
  Calls prog 174 #[.int .u8 (c.toNat:Int)] w fun e w'=>e= .returned (.int .u8 ((lG c).toNat:Int))∧w=w':=by
 have key: ∀n:Nat,n<256→c.toNat=n→c=UInt8.ofNat n:=fun n hn h=>cM hn h
 by_cases h:c.toNat=97∨c.toNat=98∨c.toNat=116∨c.toNat=110∨c.toNat=118∨c.toNat=102
 ·rcases h with h|h|h|h|h|h
  all_goals
   have hc:=key _ (by omega) h;clear key h;subst hc;go_enter func174,ntmps174;go_wp2_with fail;go_ret;exact⟨rfl,rfl⟩
 ·have hf:=aa (show lG c=13 by
   have n1:c≠97:=fun e=>h (by rw[e];decide)
   have n2:c≠98:=fun e=>h (by rw[e];decide)
   have n3:c≠116:=fun e=>h (by rw[e];decide)
   have n4:c≠110:=fun e=>h (by rw[e];decide)
   have n5:c≠118:=fun e=>h (by rw[e];decide)
   have n6:c≠102:=fun e=>h (by rw[e];decide)
   simp[lG,n1,n2,n3,n4,n5,n6])
  have a1:((c.toNat:Int)==97)=false:=by rw[bN];omega
  have a2:((c.toNat:Int)==98)=false:=by rw[bN];omega
  have a3:((c.toNat:Int)==116)=false:=by rw[bN];omega
  have a4:((c.toNat:Int)==110)=false:=by rw[bN];omega
  have a5:((c.toNat:Int)==118)=false:=by rw[bN];omega
  have a6:((c.toNat:Int)==102)=false:=by rw[bN];omega
  clear key h;go_enter func174,ntmps174;go_wp2_with fail;go_ret;exact⟨aH (by rw[hf.out];rfl),rfl⟩
set_option maxRecDepth 1000000 in
theorem ML (n:Nat) (w:World):
  Calls prog 176 #[.int .i32 (n:Int)] w fun e w'=>e= .returned (.bool (bq n))∧w=w':=by
 go_enter func176,ntmps176;go_wp2
 all_goals (go_ret;exact⟨ah (by rw[eH];simp[bq];omega),rfl⟩)
theorem afw (n:Nat) (h:n<2147483648):bits BinOp.and IntKind.i32 (n:Int) 63=((n%64:Nat):Int):=by
 show IntKind.i32.wrap ((BitVec.ofInt 32 (n:Int)&&&BitVec.ofInt 32 (63:Int)).toNat:Int)=_;have e1:(BitVec.ofInt 32 (n:Int)).toNat=n:=by rw[BitVec.ofInt_natCast,BitVec.toNat_ofNat];exact tz (by omega)
 have e2:(BitVec.ofInt 32 (63:Int)).toNat=2^6-1:=by decide
 rw[BitVec.toNat_and,e1,e2,DM,IntKind.wrap_i32];omega
theorem afx: ∀x:Fin 64,bits BinOp.or IntKind.u8 128 ((x.val:Nat):Int)=128+((x.val:Nat):Int):=by decide+kernel
theorem wE (n:Nat) (w:World) (hn:n≤1114111):
  Calls prog 187 #[.int .i32 (n:Int)] w fun e w'=>e= .returned (.int .u8 ((UInt8.ofNat (128+n%64)).toNat:Int))∧w=w':=by
 have h1:=afw n (by omega);have h2:=afx ⟨n%64,mD _ (by omega)⟩;have h3:((n%64:Nat):Int)%256=((n%64:Nat):Int):=by omega
 have hf:((UInt8.ofNat (128+n%64)).toNat:Int)=128+((n%64:Nat):Int):=by
  rw[UInt8.toNat_ofNat'];omega
 have HF:=aa hf;clear hf;dsimp only at h2;generalize n%64=m at h1 h2 h3 HF;go_enter func187,ntmps187;go_wp2;go_ret;exact⟨aH (by rw[HF.out];first|done|simp[h1,h2,h3]),rfl⟩
theorem xZ (x:Int) (n:Nat) (hx:x=(n:Int)) (w:World) (hn:n≤1114111):
  Calls prog 187 #[.int .i32 x] w fun e w'=>e= .returned (.int .u8 ((UInt8.ofNat (128+n%64)).toNat:Int))∧w=w':=by
 subst hx;exact wE n w hn
theorem fy {a:Act} 
  (hg:o.guard=none) (s x:Operand) (t:TypeId) (vp:o.op=Op.call {callee:=Callee.builtin Builtin.append,args:=#[s,x],argTypes:=#[t,t]})
  (base:Nat) (e:TypeId) (z:Value) (size bytes:Nat) (jD:(P.info? e).map (fun i=>(i.zero,i.size,i.bytes))=some (some z,size,bytes)) (h1:P.underlying t=some (.slice e)) (yA:z.cells.size=size) (iE:0<size)
  (v:Value) (n:Nat) (xs:List Value) (hs:a.eval s=v) (aL:w0.ownsRow base e size v n xs) (m:Nat) (us:List Value) (WV:us.length=m*size)
  (hx:a.eval x= .slice (some ⟨w0.heap.size,0,none⟩) m m) (PD: ∀u∈us,u.oneCell'=true) (pC:n+m≤maxLen) (hb:(n+m)*bytes≤140737488355328) (cN:base≤w0.heap.size)
  (hK: ∀v' w',w'.ownsRow base e size v' (n+m) (xs++us)→w0.grownBy w' v.ownBlock→wpList P ops Q rest (a.put o.dst v') w'):
  wpList P ops Q (o::rest) a (w0.alloc (.cells us.toArray e)):=by
 obtain⟨i,hi,hz,H8,H9⟩:=kR jD;refine wpList_append_own _ hg s x t vp base e i z size bytes h1 hi hz H8 H9 yA iE v n xs hs (aL.alloc _) ⟨w0.heap.size,0,none⟩ m m us hx WV ?_ PD pC hb (by simp;omega) ?_
 ·intro j u hu;have hj:j<us.length:=(yF.1 hu).1;rw[ri,kP,vC _ _ _ _ rfl];simpa using hu
 ·intro v' w' ho jw _;exact hK v' w' ho (aM (tN w0 _ _) jw)
theorem yV: ∀(l:List Int),∀u∈l.map (Value.int .u8),u.oneCell'=true:=ints_oneCell _
theorem iT:(prog.info? 5).map (fun i=>(i.zero,i.size,i.bytes))=some (some (.int .u8 0),1,1):=by kernel_rfl
def oH (w:World) (v:Value) (base k:Nat) (bs new:List UInt8) (e:Ending) (w':World):Prop:=
 ∃v',e= .returned v'∧w'.ownsRow base 5 1 v' (k+new.length) (cellsOf (bs++new))∧w.grownBy w' v.ownBlock
theorem sS (m:Nat) (hm:m=new.length) (aL:w'.ownsRow base 5 1 v' (k+m) (cellsOf bs++us.map (Value.int .u8))) (hg:w.grownBy w' v.ownBlock)
  (hu:us=new.map fun c=>(c.toNat:Int)):oH w v base k bs new (.returned v') w':=by
 subst hm hu;refine⟨v',rfl,?_,hg⟩;rw[fX];simpa [cellsOf,List.map_map,I4]using aL
theorem Qz (n:Nat) (w:World) (hn:n<128) (v:Value) (base k:Nat) (bs:List UInt8) (aL:w.ownsRow base 5 1 v k (cellsOf bs)) (cN:base≤w.heap.size) (hk:k≤281474976710):
  Calls prog 177 #[v,.int .i32 (n:Int)] w (oH w v base k bs [UInt8.ofNat n]):=by
 go_enter func177,ntmps177;go_wp2_with (at_builtin;refine fy rfl (.tmp 8) (.tmp 11) 147 rfl base 5 (.int .u8 0) 1 1 iT underlying147 rfl (by omega) v k _ rfl aL 1 _ rfl rfl (yV [(n:Int)]) (by unfold maxLen;omega) (by omega) cN ?_);intro v' w1 ho hg;have HO:=aa ho;have HG:=aa hg;clear ho hg aL;go_wp2_with fail;go_ret;exact sS (us:=[(n:Int)]) 1 rfl HO.out HG.out (by simp;omega)
theorem QA (n:Nat) (w:World) (hn:128≤(n:Int)) (xz:(n:Int)<2048) (v:Value) (base k:Nat) (bs:List UInt8) (aL:w.ownsRow base 5 1 v k (cellsOf bs)) (cN:base≤w.heap.size) (hk:k≤281474976710):
  Calls prog 177 #[v,.int .i32 (n:Int)] w (oH w v base k bs [UInt8.ofNat (192+n/64),UInt8.ofNat (128+n%64)]):=by
 go_enter func177,ntmps177;go_wp2_with (first|(go_at_call 187;refine(wE _ _ (by omega)).mono ?_;rintro e w' ⟨rfl,rfl⟩)|(at_builtin;refine fy rfl (.tmp 16) (.tmp 23) 147 rfl base 5 (.int .u8 0) 1 1 iT underlying147 rfl (by omega) v k _ rfl aL 2 _ rfl rfl (yV [_,_]) (by unfold maxLen;omega) (by omega) cN ?_));intro v' w1 ho hg;have HO:=aa ho;have HG:=aa hg;clear ho hg aL;go_wp2_with fail;go_ret;exact sS (us:=[192+(n:Int)/64,(128+(n:Int)%64)%256]) 2 rfl HO.out HG.out (by simp;omega)
theorem QB (n:Nat) (w:World) (hn:2048≤(n:Int)) (xz:(n:Int)≤65535) (v:Value) (base k:Nat) (bs:List UInt8) (aL:w.ownsRow base 5 1 v k (cellsOf bs)) (cN:base≤w.heap.size) (hk:k≤281474976710):
  Calls prog 177 #[v,.int .i32 (n:Int)] w (oH w v base k bs [UInt8.ofNat (224+n/4096),UInt8.ofNat (128+n/64%64),UInt8.ofNat (128+n%64)]):=by
 have ht:((n:Int)<65536)=True:=aA (by omega);go_enter func177,ntmps177;go_wp2_with fail;refine(xZ _ (n/64) (by omega) _ (by omega)).mono ?_;rintro e w' ⟨rfl,rfl⟩;go_wp2_with fail;refine(wE n _ (by omega)).mono ?_;rintro e w' ⟨rfl,rfl⟩;go_wp2_with (at_builtin;refine fy rfl (.tmp 28) (.tmp 38) 147 rfl base 5 (.int .u8 0) 1 1 iT underlying147 rfl (by omega) v k _ rfl aL 3 _ rfl rfl (yV [_,_,_]) (by unfold maxLen;omega) (by omega) cN ?_);intro v' w1 ho hg;have HO:=aa ho;have HG:=aa hg;clear ho hg aL;go_wp2_with fail;go_ret;exact sS (us:=[224+(n:Int)/4096,(128+(n:Int)/64%64)%256,(128+(n:Int)%64)%256]) 3 rfl HO.out HG.out (by simp;omega)
theorem QC (n:Nat) (w:World) (hn:65535<(n:Int)) (xz:(n:Int)≤1114111) (v:Value) (base k:Nat) (bs:List UInt8) (aL:w.ownsRow base 5 1 v k (cellsOf bs)) (cN:base≤w.heap.size) (hk:k≤281474976710):
  Calls prog 177 #[v,.int .i32 (n:Int)] w (oH w v base k bs [UInt8.ofNat (240+n/262144),UInt8.ofNat (128+n/4096%64),UInt8.ofNat (128+n/64%64),UInt8.ofNat (128+n%64)]):=by
 have ht:((n:Int)<65536)=False:=bU (by omega);go_enter func177,ntmps177;go_wp2_with fail;refine(xZ _ (n/4096) (by omega) _ (by omega)).mono ?_;rintro e w' ⟨rfl,rfl⟩;go_wp2_with fail;refine(xZ _ (n/64) (by omega) _ (by omega)).mono ?_;rintro e w' ⟨rfl,rfl⟩;go_wp2_with fail;refine(wE n _ (by omega)).mono ?_;rintro e w' ⟨rfl,rfl⟩;go_wp2_with (at_builtin;refine fy rfl (.tmp 40) (.tmp 53) 147 rfl base 5 (.int .u8 0) 1 1 iT underlying147 rfl (by omega) v k _ rfl aL 4 _ rfl rfl (yV [_,_,_,_]) (by unfold maxLen;omega) (by omega) cN ?_);intro v' w1 ho hg;have HO:=aa ho;have HG:=aa hg;clear ho hg aL;go_wp2_with fail;go_ret;exact sS (us:=[240+(n:Int)/262144,(128+(n:Int)/4096%64)%256,(128+(n:Int)/64%64)%256,(128+(n:Int)%64)%256]) 4 rfl HO.out HG.out (by simp;omega)
theorem Uu (n:Nat) (w:World) (hn:n≤1114111) (v:Value) (base k:Nat) (bs:List UInt8) (aL:w.ownsRow base 5 1 v k (cellsOf bs)) (cN:base≤w.heap.size) (hk:k≤281474976710):
  Calls prog 177 #[v,.int .i32 (n:Int)] w (oH w v base k bs (fZ n)):=by
 unfold fZ;split
 ·exact Qz n w (by omega) v base k bs aL cN hk
 ·split
  ·exact QA n w (by omega) (by omega) v base k bs aL cN hk
  ·split
   ·exact QB n w (by omega) (by omega) v base k bs aL cN hk
   ·exact QC n w (by omega) (by omega) v base k bs aL cN hk
theorem E2 (h:fc c=some d):mY c=d:=by rw[mY,h]
theorem E3 (h:fc c=none):mY c= -1:=by rw[mY,h]
theorem E4 (h:fc c=some d):d<16:=by
 unfold fc at h
 repeat' split at h
 all_goals simp at h
 all_goals omega
theorem Cp (s:ByteArray) (x:Int) (n:Nat) (hx:x=(n:Int)) (b:Int) (base:Nat) (hb:b=(base:Int)) (w:World) (hs:s.size≤281474976710656) (hn:n≤8) (cN:base=8∨base=16):
  Calls prog 175 #[.string s,.int .i64 x,.int .i32 b] w fun e w'=>e= .returned (.tuple #[.int .i32 (jT (gd s.data.toList n base)),.bool (gd s.data.toList n base).isSome])∧Below w.heap.size w w':=by
 subst hx hb;by_cases hl:s.size<n
 ·have hT:gd s.data.toList n base=none:=by rw[gd,au (by rw[ab];exact hl)]
  rw[hT];go_enter func175,ntmps175;go_wp2_with fail;go_ret2;exact⟨rfl,aV _ _⟩
 ·obtain⟨D,hD⟩: ∃D,D=s.data.toList.take n:=⟨_,rfl⟩;have hDl:D.length=n:=by rw[hD,nU,ab];omega
  have hT:gd s.data.toList n base=fr base 0 D:=by rw[gd,af (by rw[ab];exact hl),hD]
  rw[hT];generalize kK:fr base 0 D=T;have HX:=aa hD;have HD:=aa hDl;have HT:=aa kK;have aW:8≤base∧base≤16:=by omega
  obtain⟨aW,aN⟩:=aW;clear hT kK hD hDl cN;go_enter func175,ntmps175;go_wp2_with (with_reducible refine jP rfl (.tmp 18) 9 147 5 rfl (s.extract 0 n) rfl underlying9 underlying147 underlying5 ?_);intro cap w1 uH vr tT aev;rw[←HX.out]at vr;have II:min n s.size=n:=by omega
  rw[II]at uH ⊢
  clear II;go_wp2_with fail;go_loop [8,21] (fun v i=> ∃k vv:Nat,k≤n∧i= .int .i64 k∧v= .int .i32 vv∧vv≤134217727∧Hid (fr base vv (D.drop k)=T)) (fun _ i=>n-(intOf i).toNat)
  case atStart=>exact⟨0,0,dQ _,rfl,rfl,by omega,HT⟩
  case round=>
   obtain⟨k,vv,hk,rfl,rfl,Sy,hT⟩:=hrel;clear HX HT;by_cases ax:k<n
   ·have hkD:k<D.length:=by rw[HD.out];exact ax
    have hc:=vr.cell hkD;have yW:D.drop k=D[k]::D.drop (k+1):=pq hkD;have kK:=hT.out;rw[yW,fr]at kK;clear hT;generalize D[k]=c at hc kK;cases hd:fc c with
    |none=>
     have uy:=E3 hd;rw[hd]at kK;have HT:=aa kK;clear kK hd yW vr;go_wp2_with (go_at_call 186;refine(xY _ _).mono ?_;rintro e w' ⟨rfl,rfl⟩;rw[uy]);go_ret2;exact⟨by rw[←HT.out];rfl,tT⟩
    |some d=>
     have uy:=E2 hd;have ajj:=E4 hd;rw[hd]at kK;simp only at kK;by_cases Sv:d<base∧vv≤8388607
     ·rw[au Sv]at kK;obtain⟨aqS,ajk⟩:=Sv;have hmul:vv*base≤8388607*16:=oA ajk aN;have ZV:((vv*base:Nat):Int)=(vv:Int)*(base:Int):=by simp
      have ZW:(vv:Int)*(base:Int)≤134217712:=by omega
      have amV:0≤(vv:Int)*(base:Int):=by omega
      have HC:=aa ZV;have HM:=aa hmul;have HT:=aa kK;clear kK hd yW vr ZV hmul;go_wp2_with (go_at_call 186;refine(xY _ _).mono ?_;rintro e w' ⟨rfl,rfl⟩;rw[uy]);have hm:=HM.out;have kr:=HC.out;go_round
      case rel=>exact⟨k+1,vv*base+d,by omega,by go_num,by rw[Int.natCast_add,kr],by omega,HT⟩
      case measure=>simp[intOf];omega
     ·rw[af Sv]at kK;have HT:=aa kK;have ajl:base≤d∨(d<base∧8388607<vv):=by omega
      clear kK hd yW vr Sv;rcases ajl with h|⟨h,h2⟩
      all_goals
       go_wp2_with (go_at_call 186;refine(xY _ _).mono ?_;rintro e w' ⟨rfl,rfl⟩;rw[uy]);go_ret2;exact⟨by rw[←HT.out];rfl,tT⟩
   ·have kK:=hT.out;rw[uD (by rw[HD.out];omega)]at kK;have HT:=aa kK;clear kK hT vr;go_wp2_with fail;go_ret2;exact⟨by rw[←HT.out];rfl,tT⟩
def wq (w:World) (v:Value) (base k:Nat) (bs:List UInt8) (r:List UInt8×Nat) (e:Ending) (w':World):Prop:=
 ∃v',e= .returned (.tuple #[v',.int .i64 (r.2:Int)])∧w'.ownsRow base 5 1 v' (k+r.1.length) (cellsOf (bs++r.1))∧w.grownBy w' v.ownBlock
theorem wF (aL:w'.ownsRow base 5 1 v k (cellsOf bs)) (hg:w.grownBy w' v.ownBlock):wq w v base k bs ([],0) (.returned (.tuple #[v,.int .i64 0])) w':=
 ⟨v,rfl,by simpa using aL,hg⟩
theorem wG {x:Int} (m:Nat) (hm:m=new.length) (hx:x=n) (aL:w'.ownsRow base 5 1 v' (k+m) (cellsOf bs++us.map (Value.int .u8))) (hg:w.grownBy w' v.ownBlock)
  (hu:us=new.map fun c=>(c.toNat:Int)):wq w v base k bs (new,n) (.returned (.tuple #[v',.int .i64 x])) w':=by
 subst hm hu hx;refine⟨v',rfl,?_,hg⟩;rw[fX];simpa [cellsOf,List.map_map,I4]using aL
theorem oR (h:w.ownsRow base 5 1 v k xs) (hb:Below w.heap.size w w'):w'.ownsRow base 5 1 v k xs:=
 h.kept (fx hb none) (by cases v.ownBlock<;>simp)
theorem oI (h:0<s.size):(s.toList==[])=false∧s.toList.isEmpty=false:=by
 rw[nS];have:0<s.data.toList.length:=by rw[ab];exact h
 cases hl:s.data.toList with
 |nil=>rw[hl]at this;simp at this
 |cons c r=>exact⟨rfl,rfl⟩
theorem head_eq (hl:s.data.toList=c::r) (h0:0<s.size):s[0]=c:=by
 rw[←gl s 0 (by rw[hl];simp)];simp[hl]
theorem X6 (hl:s.data.toList=c::r):(s.extract 1 s.size).data.toList=r:=by
 rw[gr,hl];rfl
theorem Dh (q:UInt8) (w:World) (v:Value) (base k:Nat) (bs:List UInt8) (aL:w.ownsRow base 5 1 v k (cellsOf bs)) (cN:base≤w.heap.size) (hk:k≤281474976710):
  Calls prog 161 #[v,.string ⟨#[]⟩,.int .u8 (q.toNat:Int)] w (wq w v base k bs ([],0)):=by
 have HO:=aa aL;clear aL;go_enter func161,ntmps161;go_wp2_with fail;go_ret2;exact wF HO.out (World.grownBy.refl _ _)
structure Je (s:ByteArray) (w:World) (v:Value) (base k:Nat) (bs:List UInt8):Prop where
 s:s.size≤281474976710656
 o:w.ownsRow base 5 1 v k (cellsOf bs)
 b:base≤w.heap.size
 k:k≤281474976710
def Gc (s:ByteArray) (q:UInt8) (w:World) (v:Value) (base k:Nat) (bs:List UInt8) (r:List UInt8×Nat):Prop:=
 Calls prog 161 #[v,.string s,.int .u8 (q.toNat:Int)] w (wq w v base k bs r)
def IJ:List Int:=[97,98,116,110,118,102,114,92]
def IK:List Int:=[97,98,116,110,118,102,114,92,120,117,85]
theorem Tx {n:Int} {l:List Int} (h:(x.toNat:Int)=n): ∀t∈l,((x.toNat:Int)==t)=(n==t):=fun t _=>by rw[h]
theorem ZX {l:List Int} (h: ∀t∈l,(x.toNat:Int)≠t): ∀t∈l,((x.toNat:Int)==t)=false:=fun t ht=>bN.2 (h t ht)
theorem ZY (h:x≠q):((x.toNat:Int)==(q.toNat:Int))=false:=by
 rw[bN];intro e;exact h (Bh.1 (by omega))
theorem G0 (H:Je s w v base k bs) (h0:0<s.size) (hv:(s[0].toNat:Int)∈[(97:Int),98,116,110,118,102,114]):Gc s q w v base k bs ([lG s[0]],1):=by
 obtain⟨hs,aL,cN,hk⟩:=H;unfold Gc;obtain⟨e1,e2⟩:=oI h0;generalize hp:lG s[0]=z;simp only[gB,kM,iP]at hv;rcases hv with hv|hv|hv|hv|hv|hv|hv
 all_goals
  have T:=Tx (l:=IK) hv;simp only[IJ,IK,gB,yO,kM,EH,EI,kS,Int.reduceBEq]at T;obtain⟨_,_,_,_,_,_,_,_,_,_,_⟩:=T;clear hv;go_enter func161,ntmps161;go_wp2_with (first|(go_at_call 174;refine(Qy _ _).mono ?_;rintro e w' ⟨rfl,rfl⟩;rw[hp])|(at_builtin;refine fy rfl (.tmp 45) (.tmp 48) 147 rfl base 5 (.int .u8 0) 1 1 iT underlying147 rfl (by omega) v k _ rfl aL 1 _ rfl rfl (yV [_]) (by unfold maxLen;omega) (by omega) cN ?_));intro v' w1 ho hg;have HO:=aa ho;have HG:=aa hg;clear ho hg aL;go_wp2_with fail;go_ret2;exact wG (us:=[(z.toNat:Int)]) 1 rfl rfl HO.out HG.out rfl
theorem zj (H:Je s w v base k bs) (h0:0<s.size) (hv:(s[0].toNat:Int)=92∨(∀t∈IJ,(s[0].toNat:Int)≠t)∧s[0]=q):Gc s q w v base k bs ([s[0]],1):=by
 obtain⟨hs,aL,cN,hk⟩:=H;unfold Gc;obtain⟨e1,e2⟩:=oI h0;have T:(∀t∈IJ,((s[0].toNat:Int)==t)=(92==t))∨(∀t∈IJ,((s[0].toNat:Int)==t)=false)∧((s[0].toNat:Int)==(q.toNat:Int))=true:=hv.imp Tx fun h=>⟨ZX h.1,by rw[h.2];simp⟩
 clear hv;rcases T with T|⟨T,tq⟩
 all_goals
  simp only[IJ,IK,gB,yO,kM,EH,EI,kS,Int.reduceBEq]at T;obtain⟨_,_,_,_,_,_,_,_⟩:=T;go_enter func161,ntmps161;go_wp2_with (at_builtin;refine fy rfl (.tmp 54) (.tmp 56) 147 rfl base 5 (.int .u8 0) 1 1 iT underlying147 rfl (by omega) v k _ rfl aL 1 _ rfl rfl (yV [_]) (by unfold maxLen;omega) (by omega) cN ?_);intro v' w1 ho hg;have HO:=aa ho;have HG:=aa hg;clear ho hg aL;go_wp2_with fail;go_ret2;exact wG (us:=[(s[0].toNat:Int)]) 1 rfl rfl HO.out HG.out rfl
theorem Cq (H:Je s w v base k bs) (h0:0<s.size) (hq:s[0]≠q) {N:Nat} (hv:(s[0].toNat:Int)=120∧N=2∨(s[0].toNat:Int)=117∧N=4∨(s[0].toNat:Int)=85∧N=8) {D:Option Nat} (hd:gd (s.extract 1 s.size).data.toList N 16=D) {r:List UInt8×Nat}
  (hr:D=none∧r=([],0)∨(∃V,D=some V∧N=2∧V<256∧r=([UInt8.ofNat V],3))∨(∃V:Nat,D=some V∧N≠2∧bq V=false∧(V:Int)≤134217727∧r=([],0))∨ ∃V,D=some V∧N≠2∧bq V=true∧r=(fZ V,N+1)):Gc s q w v base k bs r:=by
 obtain⟨hs,aL,cN,hk⟩:=H;unfold Gc;obtain⟨e1,e2⟩:=oI h0;have tq:=ZY hq;have HX:Hid ((s.extract 1 s.size).size≤281474976710656):=aa (by simp;omega);have HR:=aa hr;have HD:=aa hd;clear hq hr hd;rcases hv with⟨hv,hN⟩|⟨hv,hN⟩|⟨hv,hN⟩
 all_goals
  have T:=Tx (l:=IK) hv;simp only[IJ,IK,gB,yO,kM,EH,EI,kS,Int.reduceBEq]at T;obtain⟨_,_,_,_,_,_,_,_,_,_,_⟩:=T;clear hv;go_enter func161,ntmps161;go_wp2_with fail;refine(Cp (s.extract 1 s.size) _ N (by omega) _ 16 (by omega) _ HX.out (by omega) (.inr rfl)).mono ?_;rintro e w1 ⟨rfl,hb⟩;rw[HD.out];have mE:=oR aL hb;have Gn:=bP cN hb.size;have HB:=aa hb;clear aL hb HX;rcases HR.out with⟨rfl,rfl⟩|⟨V,rfl,hn,hV,rfl⟩|⟨V,rfl,hn,hV,hV2,rfl⟩|⟨V,rfl,hn,hV,rfl⟩
  all_goals clear HR HD
  all_goals simp only[jT,Option.isSome]
  ·have Zl:=aa mE;clear mE;go_wp2_with fail;go_ret2;exact wF Zl.out (fx HB.out _)
  ·first
   |(exfalso;omega)
   |skip
    go_wp2_with (at_builtin;refine fy rfl (.tmp 67) (.tmp 70) 147 rfl base 5 (.int .u8 0) 1 1 iT underlying147 rfl (by omega) v k _ rfl mE 1 _ rfl rfl (yV [_]) (by unfold maxLen;omega) (by omega) Gn ?_);intro v' w2 ho hg;have HO:=aa ho;have HG:=aa hg;clear ho hg mE;go_wp2_with fail;go_ret2;exact wG (us:=[(V:Int)]) 1 rfl rfl HO.out (aM (fx HB.out _) HG.out) (by simp;omega)
  all_goals first
   |(exfalso;omega)
   |skip
    have Zl:=aa mE;have HR:=aa hV;clear mE;go_wp2_with fail;refine(ML V _).mono ?_;rintro e w' ⟨rfl,rfl⟩;rw[hV];clear hV;go_wp2_with fail
    first
    |go_ret2
     exact wF Zl.out (fx HB.out _)
    |refine(Uu V _ (uN HR.out) v base k bs Zl.out Gn hk).mono ?_
     rintro e w2 ⟨v',rfl,ho,hg⟩;have HO:=aa ho;have HG:=aa hg;clear ho hg;go_wp2_with fail;go_ret2;exact⟨v',by subst hN;rfl,HO.out,aM (fx HB.out _) HG.out⟩
theorem MM (H:Je s w v base k bs) (h0:0<s.size) (hq:s[0]≠q) (hn: ∀t∈IK,(s[0].toNat:Int)≠t) {D:Option Nat} (hd:gd s.data.toList 3 8=D) {r:List UInt8×Nat}
  (hr:D=none∧r=([],0)∨(∃V:Nat,D=some V∧255<(V:Int)∧r=([],0))∨ ∃V:Nat,D=some V∧(V:Int)≤255∧r=([UInt8.ofNat V],3)):Gc s q w v base k bs r:=by
 obtain⟨hs,aL,cN,hk⟩:=H;unfold Gc;obtain⟨e1,e2⟩:=oI h0;have tq:=ZY hq;have HD:=aa hd;have T:=ZX hn;simp only[IJ,IK,gB,yO,kM,EH,EI,kS,Int.reduceBEq]at T;obtain⟨_,_,_,_,_,_,_,_,_,_,_⟩:=T;clear hq hd hn;have HR:=aa hr;clear hr;go_enter func161,ntmps161;go_wp2_with fail;refine(Cp s _ 3 (by omega) _ 8 (by omega) _ hs (by omega) (.inl rfl)).mono ?_;rintro e w1 ⟨rfl,hb⟩;rw[HD.out];have mE:=oR aL hb;have Gn:=bP cN hb.size;have HB:=aa hb;clear aL hb;rcases HR.out with⟨rfl,rfl⟩|⟨V,rfl,hV,rfl⟩|⟨V,rfl,hV,rfl⟩
 all_goals clear HR HD
 all_goals simp only[jT,Option.isSome]
 rotate_right
 ·go_wp2_with (at_builtin;refine fy rfl (.tmp 32) (.tmp 35) 147 rfl base 5 (.int .u8 0) 1 1 iT underlying147 rfl (by omega) v k _ rfl mE 1 _ rfl rfl (yV [_]) (by unfold maxLen;omega) (by omega) Gn ?_);intro v' w2 ho hg;have HO:=aa ho;have HG:=aa hg;clear ho hg mE;go_wp2_with fail;go_ret2;exact wG (us:=[(V:Int)]) 1 rfl rfl HO.out (aM (fx HB.out _) HG.out) (by simp;omega)
 all_goals
  have Zl:=aa mE;clear mE;go_wp2_with fail;go_ret2;exact wF Zl.out (fx HB.out _)
theorem Cr {base:Nat} (hb:base≤16): ∀{l:List UInt8} {v r:Nat},fr base v l=some r→v≤134217727→r≤134217727
 |[],v,r,h,hv=>by simp[fr]at h;omega
 |c::l,v,r,h,hv=>by
  simp only[fr]at h;cases hd:fc c with
  |none=>rw[hd]at h;simp at h
  |some d=>
   rw[hd]at h;simp only at h;split at h
   ·rename_i hx;have:v*base≤8388607*16:=oA hx.2 hb;exact Cr hb h (by omega)
   ·simp at h
theorem Uv (h:gd l n base=some V) (hb:base≤16):(V:Int)≤134217727:=by
 unfold gd at h;split at h
 ·simp at h
 ·have:=Cr hb h (by omega);omega
theorem Cs (s:ByteArray) (q:UInt8) (w:World) (hs:s.size≤281474976710656) (v:Value) (base k:Nat) (bs:List UInt8) (aL:w.ownsRow base 5 1 v k (cellsOf bs)) (cN:base≤w.heap.size) (hk:k≤281474976710):
  Calls prog 161 #[v,.string s,.int .u8 (q.toNat:Int)] w (wq w v base k bs (rk q s.data.toList)):=by
 cases hl:s.data.toList with
 |nil=>
  have:s=⟨#[]⟩:=by rw[←mk_data s,hl]
  subst this;exact Dh q w v base k bs aL cN hk
 |cons c r=>
  have h0:0<s.size:=by rw[←ab,hl];simp
  have hc:=head_eq hl h0;have ht:=X6 hl;have H:Je s w v base k bs:=⟨hs,aL,cN,hk⟩;have hi: ∀n:Nat,n<256→c≠UInt8.ofNat n→(s[0].toNat:Int)≠(n:Int):=fun n hn h e=>h (by rw[←hc];exact cM hn (Int.ofNat.inj e))
  by_cases hp:eA c=true
  ·rw[Qw hp,←hc];refine G0 H h0 ?_;rw[hc];have e:c=97∨c=98∨c=116∨c=110∨c=118∨c=102∨c=114:=by simpa [eA,or_assoc]using hp
   rcases e with e|e|e|e|e|e|e<;>(rw[e];decide)
  ·have hp':eA c=false:=by simpa using hp
   have np:c≠97∧c≠98∧c≠116∧c≠110∧c≠118∧c≠102∧c≠114:=by simpa [eA,and_assoc]using hp'
   obtain⟨n1,n2,n3,n4,n5,n6,n7⟩:=np;by_cases h92:c=92
   ·rw[Jr hp' (.inl h92),←hc];exact zj H h0 (.inl (by rw[hc,h92];rfl))
   ·by_cases hq:c=q
    ·rw[Jr hp' (.inr hq),←hc];refine zj H h0 (.inr ⟨?_,by rw[hc,hq]⟩);simp only[IJ,gB,yO,kM,EH,EI,kS];exact⟨hi 97 (by decide) n1,hi 98 (by decide) n2,hi 116 (by decide) n3,hi 110 (by decide) n4,hi 118 (by decide) n5,hi 102 (by decide) n6,hi 114 (by decide) n7,hi 92 (by decide) h92⟩
    ·have Ξ:s[0]≠q:=by rw[hc];exact hq
     by_cases XH:c=120
     ·rw[afp XH hq,←ht];refine Cq H h0 Ξ (.inl ⟨by rw[hc,XH];rfl,rfl⟩) rfl ?_;cases hd:gd (s.extract 1 s.size).data.toList 2 16 with
      |none=>exact .inl ⟨rfl,rfl⟩
      |some V=>exact .inr (.inl ⟨V,rfl,rfl,by rw[Co]at hd;exact sM (by omega) hd,rfl⟩)
     ·have hx: ∀N,N=4∧c=117∨N=8∧c=85→Gc s q w v base k bs (match gd r N 16 with|some v=>if bq v then(fZ v,N+1)else([],0)|none=>([],0)):=by
       intro N hN;have hv:(s[0].toNat:Int)=117∧N=4∨(s[0].toNat:Int)=85∧N=8:=hN.imp (fun h=>⟨by rw[hc,h.2];rfl,h.1⟩) fun h=>⟨by rw[hc,h.2];rfl,h.1⟩
       refine Cq H h0 Ξ (.inr hv) rfl ?_;rw[ht];cases hd:gd r N 16 with
       |none=>exact .inl ⟨rfl,rfl⟩
       |some V=>
        cases hr:bq V
        ·exact .inr (.inr (.inl ⟨V,rfl,by omega,hr,Uv hd (by omega),by simp[hr]⟩))
        ·exact .inr (.inr (.inr ⟨V,rfl,by omega,hr,by simp[hr]⟩))
      by_cases XJ:c=117
      ·rw[afq XJ hq];exact hx 4 (.inl ⟨rfl,XJ⟩)
      ·by_cases h85:c=85
       ·rw[afr h85 hq];exact hx 8 (.inr ⟨rfl,h85⟩)
       ·rw[X4 hp' h92 hq XH XJ h85,←hl];refine MM H h0 Ξ ?_ rfl ?_
        ·simp only[IK,gB,yO,kM,EH,EI,kS];exact⟨hi 97 (by decide) n1,hi 98 (by decide) n2,hi 116 (by decide) n3,hi 110 (by decide) n4,hi 118 (by decide) n5,hi 102 (by decide) n6,hi 114 (by decide) n7,hi 92 (by decide) h92,hi 120 (by decide) XH,hi 117 (by decide) XJ,hi 85 (by decide) h85⟩
        ·cases hd:gd s.data.toList 3 8 with
         |none=>exact .inl ⟨rfl,rfl⟩
         |some V=>
          by_cases hV:V≤255
          ·exact .inr (.inr ⟨V,rfl,by omega,by simp[hV]⟩)
          ·exact .inr (.inl ⟨V,rfl,by omega,by simp[hV]⟩)
