import Derived.Test.YtcdoilkjmjbgmaaGreatDoorW01
import Derived.Lib.DecodeN
import Derived.Lib.Strings
/- Part of the proof of YtcdoilkjmjbgmaaGreatDoorCardX: PlB UtfA PlC PlE UtfB UtfC UtfD. -/
set_option maxRecDepth 100000
set_option maxHeartbeats 4000000
set_option linter.unusedVariables false
set_option linter.unusedSimpArgs false
namespace Go.Proofs.YtcdoilkjmjbgmaaGreatDoor
open Go.RowKit
open Go.Proofs.Tryz
variable {l r bs new:List UInt8} {i n k base j d V:Nat} {a c q x:UInt8} {b m:Int} {s:ByteArray} {P:Program} {w0 w w':World} {ops:Array Oper} {rest:List Oper} {o:Oper} {Q:Exit→Act→World→Prop} {v v':Value} {us:List Int} {xs:List Value}
def dec (l:List UInt8) (i:Nat):Nat×Nat:=Lib.decodeN (l.length-i) (l.getD i 0).toNat (l.getD (i+1) 0).toNat (l.getD (i+2) 0).toNat (l.getD (i+3) 0).toNat
theorem vW (s:ByteArray) (i:Nat):s.get! i=s.data.toList.getD i 0:=by
 cases s with
 |mk d=>
  simp only[ByteArray.get!,lf,Array.getElem?_toList];rw[getElem!_def];cases d[i]? <;>rfl
theorem abY (s:ByteArray) (i:Nat):Utf8.decode s i=dec s.data.toList i:=by
 rw[Lib.decode_at,dec,vW,vW,vW,vW,ab]
theorem vO (l:List UInt8) (i:Nat):1≤(dec l i).2:=by
 unfold dec Lib.decodeN
 repeat' split
 all_goals simp
theorem TC (l:List UInt8) (i:Nat) (h:i<l.length):i+(dec l i).2≤l.length:=by
 unfold dec Lib.decodeN
 repeat' split
 all_goals simp
 all_goals omega
def bad (l:List UInt8) (i:Nat):Bool:=dec l i==(65533,1)
def SA (l:List UInt8):Nat→Nat→Bool
 |0,_=>true
 |f+1,i=>if i<l.length then(if bad l i then false else SA l f (i+(dec l i).2))else true
def valid (l:List UInt8):Bool:=SA l l.length 0
theorem vP (l:List UInt8) (f i:Nat) (h:l.length≤i):SA l f i=true:=by
 cases f with
 |zero=>rfl
 |succ f=>rw[SA,af (by omega)]
theorem I8 (l:List UInt8): ∀(f g i:Nat),l.length-i≤f→l.length-i≤g→SA l f i=SA l g i
 |0,g,i,hf,_=>by rw[vP l 0 i (by omega),vP l g i (by omega)]
 |f+1,0,i,_,hg=>by rw[vP l 0 i (by omega),vP l (f+1) i (by omega)]
 |f+1,g+1,i,hf,hg=>by
  rw[SA,SA];have:=vO l i;by_cases h:i<l.length
  ·rw[ar h,ar h,I8 l f g _ (by omega) (by omega)]
  ·rw[af h,af h]
def vH (l:List UInt8) (i:Nat):Bool:=SA l (l.length-i) i
theorem B5 (l:List UInt8):vH l 0=valid l:=rfl
theorem ER (h:l.length≤i):vH l i=true:=vP _ _ _ h
theorem ES (h:i<l.length) (hb:bad l i=true):vH l i=false:=by
 unfold vH;obtain⟨f,hf⟩: ∃f,l.length-i=f+1:=⟨l.length-i-1,by omega⟩;rw[hf,SA,ar h,hb];rfl
theorem B6 (h:i<l.length) (hb:bad l i=false):vH l (i+(dec l i).2)=vH l i:=by
 unfold vH;obtain⟨f,hf⟩: ∃f,l.length-i=f+1:=⟨l.length-i-1,by omega⟩;rw[hf,SA,ar h,hb];have:=vO l i;exact I8 l _ _ _ (by omega) (by omega)
def FY (l:List UInt8) (i:Nat):Bool:=(l.drop i).take 3==[239,191,189]
theorem ρ (l:List UInt8) (i:Nat) (h:i+3≤l.length):(l.drop i).take 3=[l.getD i 0,l.getD (i+1) 0,l.getD (i+2) 0]:=by
 apply IN
 ·simp;omega
 ·intro j h1 h2;simp at h2;simp only[IL,vs]
  match j,h2 with
  |0,_=>simp[lf,lB (show i<l.length by omega)]
  |1,_=>simp[lf,lB (show i+1<l.length by omega)]
  |2,_=>simp[lf,lB (show i+2<l.length by omega)]
theorem yH (hn:n<256):a=UInt8.ofNat n↔a.toNat=n:=by
 constructor
 ·intro h;subst h;simp;omega
 ·intro h;apply Ba.1;simp;omega
theorem Ux (h:(l.getD i 0).toNat=n) (hn:0<n):i<l.length:=by
 rcases dD i l.length with h'|h'
 ·exact h'
 ·rw[lf,En h']at h;simp at h;omega
theorem Uy (l:List UInt8) (i:Nat):FY l i=true↔(l.getD i 0).toNat=239∧(l.getD (i+1) 0).toNat=191∧(l.getD (i+2) 0).toNat=189:=by
 unfold FY;rw[cn];constructor
 ·intro h;have hl:i+3≤l.length:=by
   have:=bT List.length h;simp at this;omega
  rw[ρ l i hl]at h;simp only[ny,jw]at h;obtain⟨h1,h2,h3⟩:=h;rw[h1,h2,h3];decide
 ·rintro⟨h1,h2,h3⟩;have hl:i+2<l.length:=Ux h3 (by omega);rw[ρ l i (by omega),(yH (by omega)).2 h1,(yH (by omega)).2 h2,(yH (by omega)).2 h3];decide
theorem Uz (l:List UInt8) (i:Nat) (h:i<l.length):bad l i=((dec l i).1==65533&& !FY l i):=by
 have aU:(l.getD (i+1) 0).toNat<256:=(l.getD (i+1) 0).toNat_lt;have aM:(l.getD (i+2) 0).toNat<256:=(l.getD (i+2) 0).toNat_lt;have Dp:(l.getD i 0).toNat<256:=(l.getD i 0).toNat_lt;have hr:=Uy l i;have xf:2<l.length-i∨(l.getD (i+2) 0).toNat=0:=by
  rcases dD (i+2) l.length with h'|h'
  ·left;omega
  ·right;rw[lf,En h'];rfl
 rw[eE];simp only[bad,cn,kF,Bool.not_eq_true'];rw[Bool.eq_false_iff,ne_eq,hr];unfold dec Lib.decodeN;generalize (l.getD i 0).toNat=b0 at*
 generalize (l.getD (i+1) 0).toNat=b1 at*
 generalize (l.getD (i+2) 0).toNat=b2 at*
 generalize (l.getD (i+3) 0).toNat=b3 at*
 clear hr
 repeat' split
 all_goals (simp only[vz];try dsimp only)
 all_goals first|omega|(simp only[rz,true_iff,not_and];omega)|(simp;omega)
def ba (n:Nat):Bool:=decide (n<55296)||(decide (57344≤n)&&decide (n≤1114111))
def fO (n:Nat):List UInt8:=
 if n<128 then[UInt8.ofNat n]
 else if n<2048 then[UInt8.ofNat (192+n/64),UInt8.ofNat (128+n%64)]
 else if n<65536 then[UInt8.ofNat (224+n/4096),UInt8.ofNat (128+n/64%64),UInt8.ofNat (128+n%64)]
 else[UInt8.ofNat (240+n/262144),UInt8.ofNat (128+n/4096%64),UInt8.ofNat (128+n/64%64),UInt8.ofNat (128+n%64)]
theorem xK (n:Nat):1≤(fO n).length∧(fO n).length≤4:=by
 unfold fO;repeat' split
 all_goals simp
def eY (c:UInt8):Option Nat:=
 if 48≤c.toNat∧c.toNat≤57 then some (c.toNat-48)
 else if 97≤c.toNat∧c.toNat≤102 then some (c.toNat-87)
 else if 65≤c.toNat∧c.toNat≤70 then some (c.toNat-55)else none
def fy (base:Nat):Nat→List UInt8→Option Nat
 |v,[]=>some v
 |v,c::r=>match eY c with
  |some d=>if d<base then fy base (v*base+d) r else none
  |none=>none
def fe (l:List UInt8) (n base:Nat):Option Nat:=if l.length<n then none else fy base 0 (l.take n)
def fi (base:Nat):Nat→List UInt8→Option Nat
 |v,[]=>some v
 |v,c::r=>match eY c with
  |some d=>if d<base∧v≤8388607 then fi base (v*base+d) r else none
  |none=>none
def fP (l:List UInt8) (n base:Nat):Option Nat:=if l.length<n then none else fi base 0 (l.take n)
def eH (q:UInt8):List UInt8→Option Nat
 |[]=>none
 |[c]=>if c=q then some 1 else none
 |c::d::r=>
  if c=q then some 1
  else if q=96 then(eH q (d::r)).map (· +1)
  else if c=10 then none
  else if c=92 then(if d=10 then none else(eH q r).map (· +2))
  else(eH q (d::r)).map (· +1)
def dB (c:UInt8):Bool:=c==34||c==39||c==96
def bz (l:List UInt8) (i:Nat):Option Nat:=if i<l.length∧dB (an l i)=true then(eH (an l i) (l.drop (i+1))).map (· +(i+1))else none
def dZ (q:UInt8) (l:List UInt8) (i:Nat):Option Nat:=(eH q (l.drop i)).map (· +i)
theorem Gq {o:Option Nat} {a b c:Nat} (h:c=a+b):(o.map (· +a)).map (· +b)=o.map (· +c):=by
 cases o<;>simp;omega
theorem yT (h:l.length≤i):dZ q l i=none:=by
 rw[dZ,s9 h];rfl
theorem drop_at (h:i<l.length):l.drop i=an l i::l.drop (i+1):=by
 rw[nV h,an,lf,lB h];rfl
theorem OH:eH q (q::r)=some 1:=by
 cases r<;>simp[eH]
theorem J2 (h:i<l.length) (hc:an l i=q):dZ q l i=some (i+1):=by
 rw[dZ,drop_at h,hc,OH];simp;omega
theorem Ql (hc:c≠96):eH 96 (c::r)=(eH 96 r).map (· +1):=by
 cases r<;>simp[eH,hc]
theorem J3 (h:i<l.length) (hc:an l i≠96):dZ 96 l i=dZ 96 l (i+1):=by
 rw[dZ,drop_at h,Ql hc,Gq (c:=i+1) (by omega)];rfl
theorem UA (h:q≠96) (h2:q≠10):eH q (10::r)=none:=by
 cases r<;>simp[eH,h,h2.symm]
theorem Ms (h:i<l.length) (hq:q≠96) (tY:an l i≠q) (hc:an l i=10):dZ q l i=none:=by
 rw[dZ,drop_at h,hc,UA hq (by rw[←hc];exact tY.symm)];rfl
theorem J4 (h:q≠96) (h1:c≠q) (h2:c≠10) (h3:c≠92):eH q (c::r)=(eH q r).map (· +1):=by
 cases r<;>simp[eH,h,h1,h2,h3]
theorem DQ (h:i<l.length) (hq:q≠96) (h1:an l i≠q) (h2:an l i≠10) (h3:an l i≠92):dZ q l i=dZ q l (i+1):=by
 rw[dZ,drop_at h,J4 hq h1 h2 h3,Gq (c:=i+1) (by omega)];rfl
theorem Ac (h:i+1=l.length) (h1:an l i≠q):dZ q l i=none:=by
 rw[dZ,drop_at (by omega),s9 (by omega)];simp[eH,h1]
theorem CN (h:i+1<l.length) (hq:q≠96) (h1:an l i≠q) (h2:an l i=92) (h3:an l (i+1)=10):dZ q l i=none:=by
 rw[dZ,drop_at (by omega),drop_at h,h3];rw[h2]at h1 ⊢
 simp[eH,h1,hq]
theorem J5 (h:i+1<l.length) (hq:q≠96) (h1:an l i≠q) (h2:an l i=92) (h3:an l (i+1)≠10):dZ q l i=dZ q l (i+2):=by
 rw[dZ,drop_at (by omega),drop_at h];rw[h2]at h1 ⊢
 simp only[eH,af h1,af hq,af (show ¬(92:UInt8)=10 by decide),ar,af h3];rw[Gq (c:=i+2) (by omega)];rfl
def ln (c:UInt8):UInt8:=if c=97 then 7 else if c=98 then 8 else if c=116 then 9 else if c=110 then 10 else if c=118 then 11 else if c=102 then 12 else 13
def ew (c:UInt8):Bool:=c==97||c==98||c==116||c==110||c==118||c==102||c==114
def dJ (q:UInt8) (l:List UInt8):Option (List UInt8×Nat):=match l with
 |[]=>none
 |c::r=>
  if ew c then some ([ln c],1)
  else if c=92∨c=q then some ([c],1)
  else if c=120 then(fe r 2 16).map fun v=>([UInt8.ofNat v],3)
  else if c=117 then(fe r 4 16).bind fun v=>if ba v then some (fO v,5)else none
  else if c=85 then(fe r 8 16).bind fun v=>if ba v then some (fO v,9)else none
  else(fe (c::r) 3 8).bind fun v=>if v≤255 then some ([UInt8.ofNat v],3)else none
def kM (q:UInt8):Nat→List UInt8→Option (List UInt8)
 |0,_=>some []
 |_+1,[]=>some []
 |f+1,c::r=>if c≠92 then(kM q f r).map (c:: ·)else
  match dJ q r with
  |none=>none
  |some (b,n)=>(kM q f (r.drop n)).map (b++ ·)
def lM (l:List UInt8):Nat×List UInt8:=
 if valid l=false then(4,[])
 else if bz l 0≠some l.length then(10,[])
 else if an l 0=96 then(0,(l.drop 1).take (l.length-2))
 else match kM (an l 0) l.length ((l.drop 1).take (l.length-2))with
  |none=>(11,[])
  |some b=>if valid b then(0,b)else(13,[])
theorem wM (s:ByteArray) (i:Nat) (w:World) (hs:s.size≤281474976710656) (hi:i<s.size):
  Calls prog 102 #[.string s,.int .i64 (i:Int)] w fun e w'=>e= .returned (.bool (FY s.data.toList i))∧w=w':=by
 by_cases h3:i+3≤s.size
 ·have hr:FY s.data.toList i=((s.extract i (i+3)).toList==[239,191,189]):=by
   rw[FY,nW,Lib.extract_data,Nat.add_sub_cancel_left]
  have HR:=aa hr;clear hr;go_enter func102,ntmps102;go_wp2_with fail;go_ret;exact⟨ah (by rw[HR.out]),rfl⟩
 ·have hr:FY s.data.toList i=false:=by
   cases h:FY s.data.toList i
   ·rfl
   ·have:=bT List.length (cn.1 h);simp at this;omega
  have HR:=aa hr;clear hr;go_enter func102,ntmps102;go_wp2_with fail;go_ret;exact⟨ah (by rw[HR.out]),rfl⟩
theorem jV (s:ByteArray) (w:World) (hs:s.size≤281474976710656):
  Calls prog 79 #[.string s] w fun e w'=>e= .returned (.bool (valid s.data.toList))∧Below w.heap.size w w':=by
 have h0:=aa (B5 s.data.toList);go_enter func79,ntmps79;go_wp2_with fail;go_loopw [] (fun w'=> ∃pos:Nat,pos≤s.size∧w'=w.iter s pos∧Hid (vH s.data.toList pos=valid s.data.toList)) (fun w'=>s.size-w'.iterPos w.heap.size)
 case atStart=>exact⟨0,aT _,rfl,h0.out⟩
 case round=>
  obtain⟨pos,pN,rfl,hv⟩:=hrel;by_cases hp:pos<s.size
  ·have hpl:pos<s.data.toList.length:=by rw[ab];exact hp
   have Pz: ∀ty,(Instr.next (.pointer (some ⟨w.heap.size,0,none⟩)) true ty).run prog (w.iter s pos)=_:=fun ty=>run_next_any w s pos ty hp
   have hde:=abY s pos;rw[hde]at Pz;have hbc:=Uz s.data.toList pos hpl;have ey:=vO s.data.toList pos;have AJ:=TC s.data.toList pos hpl;rw[ab]at AJ;have cA:=@B6 s.data.toList pos hpl;have hbd:=@ES s.data.toList pos hpl;generalize (dec s.data.toList pos).1=r at hbc Pz;generalize (dec s.data.toList pos).2=d at ey AJ cA Pz;by_cases hr:r=65533
   ·subst hr;cases hrp:FY s.data.toList pos
    ·have hb:bad s.data.toList pos=true:=by rw[hbc,hrp];rfl
     have HF:=aa ((hbd hb).symm.trans hv.out);clear hbc cA hbd hb hde;go_wp2_with (go_at_call 102;refine(wM s pos _ hs hp).mono ?_;rintro e w' ⟨rfl,rfl⟩);go_ret;exact⟨ah (by rw[←HF.out]),(aS _ _).alloc (aP _) _⟩
    ·have hb:bad s.data.toList pos=false:=by rw[hbc,hrp];rfl
     have HF:=aa ((cA hb).trans hv.out);clear hbc cA hbd hb hde;go_wp2_with (go_at_call 102;refine(wM s pos _ hs hp).mono ?_;rintro e w' ⟨rfl,rfl⟩);go_roundw
     case rel=>exact⟨pos+d,by omega,rfl,HF.out⟩
     case measure=>simp;omega
   ·have hb:bad s.data.toList pos=false:=by rw[hbc,bK.2 hr];rfl
    have HF:=aa ((cA hb).trans hv.out);have hrb:((r:Int)==65533)=false:=by rw[bK];omega
    clear hbc cA hbd hb hde hr;go_wp2_with fail;go_roundw
    case rel=>exact⟨pos+d,by omega,rfl,HF.out⟩
    case measure=>simp;omega
  ·have Pz: ∀ty,(Instr.next (.pointer (some ⟨w.heap.size,0,none⟩)) true ty).run prog (w.iter s pos)=_:=fun ty=>run_next_end w s pos ty hp
   have HF:=aa ((ER (l:=s.data.toList) (i:=pos) (by rw[ab];omega)).symm.trans hv.out);go_wp2_with fail;go_ret;exact⟨ah (by rw[←HF.out]),(aS _ _).alloc (aP _) _⟩
def jL (o:Option Nat):Int:=match o with|some n=>n|none=>0
def oc (e:Int) (o:Option Nat):Int:=match o with|some _=>0|none=>e
theorem cD (hn:n<256) (h:a.toNat=n):a=UInt8.ofNat n:=(yH hn).2 h
theorem Ad (s:ByteArray) (i:Nat) (w:World) (hi:s.size≤i):
  Calls prog 149 #[.string s,.int .i64 (i:Int)] w fun e w'=>e= .returned (.tuple #[.int .i64 0,.int .i64 10])∧w=w':=by
 go_enter func149,ntmps149;go_wp2_with fail;go_ret2;exact⟨rfl,rfl⟩
theorem CO (s:ByteArray) (i:Nat) (w:World) (hi:i<s.size) (h1:s[i].toNat<34∨34<s[i].toNat) (h2:s[i].toNat<39∨39<s[i].toNat) (h3:s[i].toNat<96∨96<s[i].toNat):
  Calls prog 149 #[.string s,.int .i64 (i:Int)] w fun e w'=>e= .returned (.tuple #[.int .i64 0,.int .i64 10])∧w=w':=by
 have b1:((s[i].toNat:Int) != 34)=true:=by rw[ju];omega
 have b2:((s[i].toNat:Int) != 39)=true:=by rw[ju];omega
 have b3:((s[i].toNat:Int) != 96)=true:=by rw[ju];omega
 clear h1 h2 h3;go_enter func149,ntmps149;go_wp2_with fail;go_ret2;exact⟨rfl,rfl⟩
theorem js {a:Int} (h:(a==b)=true):a=b:=cn.1 h
theorem kA {a:Int} (h:(a==b)=false):a≠b:=bK.1 h
theorem u8T {b:UInt8} (h:((a.toNat:Int)==(b.toNat:Int))=true):a=b:=by
 have:=js h;exact Ba.1 (by omega)
theorem La {b:UInt8} (h:((a.toNat:Int)==(b.toNat:Int))=false):a≠b:=by
 rintro rfl;simp at h
theorem oD (hn:n<256) (hm:m=n) (h:((a.toNat:Int)==m)=true):a=UInt8.ofNat n:=
 cD hn (by have:=js h;omega)
theorem pO (hn:n<256) (hm:m=n) (h:((a.toNat:Int)==m)=false):a≠UInt8.ofNat n:=by
 intro e;have:=(yH hn).1 e;exact kA h (by omega)
def eZ (s:ByteArray) (q:UInt8) (T:Option Nat) (k:Nat):Prop:=k≤s.size+1∧dZ q s.data.toList k=T
theorem Au {T:Option Nat} (h:eZ s q T k) (hk:s.size≤k):T=none:=by
 rw[←h.2,yT (by rw[ab];exact hk)]
theorem Av {T:Option Nat} (h:eZ s q T k) (hk:k<s.size) (hq:s[k]=q):T=some (k+1):=by
 rw[←h.2,J2 (by rw[ab];exact hk) (by rw[aq hk];exact hq)]
theorem OI {T:Option Nat} (h:eZ s q T k) (hr:q=96) (hk:k<s.size) (hq:s[k]≠q):eZ s q T (k+1):=by
 subst hr;exact⟨by omega,(J3 (by rw[ab];exact hk) (by rw[aq hk];exact hq)).symm.trans h.2⟩
theorem T0 {T:Option Nat} (h:eZ s q T k) (hr:q≠96) (hk:k<s.size) (hq:s[k]≠q) (hn:s[k]=10):T=none:=by
 rw[←h.2,Ms (by rw[ab];exact hk) hr (by rw[aq hk];exact hq) (by rw[aq hk];exact hn)]
theorem ET {T:Option Nat} (h:eZ s q T k) (hr:q≠96) (hk:k<s.size) (hq:s[k]≠q) (hn:s[k]≠10) (hb:s[k]≠92):eZ s q T (k+1):=
 ⟨by omega,(DQ (by rw[ab];exact hk) hr (by rw[aq hk];exact hq) (by rw[aq hk];exact hn) (by rw[aq hk];exact hb)).symm.trans h.2⟩
theorem nK {T:Option Nat} (h:eZ s q T k) (hk:k+1=s.size) (hq:s[k]'(by omega)≠q):eZ s q T (k+2):=by
 refine⟨by omega,?_⟩;rw[←h.2,yT (by rw[ab];omega),Ac (by rw[ab];exact hk) (by rw[aq (by omega)];exact hq)]
theorem B7 {T:Option Nat} (h:eZ s q T k) (hr:q≠96) (hk:k+1<s.size) (hq:s[k]≠q) (hb:s[k]=92) (hn:s[k+1]=10):T=none:=by
 rw[←h.2,CN (by rw[ab];exact hk) hr (by rw[aq (by omega)];exact hq) (by rw[aq (by omega)];exact hb) (by rw[aq hk];exact hn)]
theorem Aw {T:Option Nat} (h:eZ s q T k) (hr:q≠96) (hk:k+1<s.size) (hq:s[k]≠q) (hb:s[k]=92) (hn:s[k+1]≠10):eZ s q T (k+2):=
 ⟨by omega,(J5 (by rw[ab];exact hk) hr (by rw[aq (by omega)];exact hq) (by rw[aq (by omega)];exact hb) (by rw[aq hk];exact hn)).symm.trans h.2⟩
theorem iS {T U:Option Nat} {a:Int} (h:T=U) (ha:a=jL U) (hb:b=oc 10 U):Ending.returned (.tuple #[.int .i64 a,.int .i64 b])= .returned (.tuple #[.int .i64 (jL T),.int .i64 (oc 10 T)]):=by
 subst h ha hb;rfl
theorem Ae (s:ByteArray) (i:Nat) (w:World) (hs:s.size≤281474976710656) (hi:i<s.size) (T:Option Nat) (hT:eZ s s[i] T (i+1)) (hq:s[i]=96)
  (aU:((s[i].toNat:Int) != 34)=true) (aM:((s[i].toNat:Int) != 39)=true) (cr:((s[i].toNat:Int) != 96)=false) (fa:((s[i].toNat:Int)==96)=true):
  Calls prog 149 #[.string s,.int .i64 (i:Int)] w fun e w'=>e= .returned (.tuple #[.int .i64 (jL T),.int .i64 (oc 10 T)])∧w=w':=by
 have ti:decide ((i:Int)<0)=false:=by simp
 have hi1:decide (s.size≤i)=false:=by simpa using hi
 have xa:decide ((s.size:Int)≤(i:Int))=false:=by simpa using hi
 have HT:=aa hT;have HQ:=aa hq;clear hT hq
 all_goals
  go_enter func149,ntmps149;go_wp2_with fail;go_loop [7] (fun t=> ∃k:Nat,k≤s.size+1∧t= .int .i64 k∧eZ s s[i] T k) (fun t=>s.size+1-(intOf t).toNat)
  case atStart=>exact⟨i+1,by omega,by go_num,HT.out⟩
  case round=>
   obtain⟨k,hk,rfl,hrel⟩:=hrel;clear HT;have HR:=aa hrel;clear hrel;by_cases au:k<s.size
   ·cases h1:((s[k].toNat:Int)==(s[i].toNat:Int))
    ·go_wp2_with fail;go_round
     case rel=>exact⟨k+1,by omega,by go_num,OI HR.out HQ.out au (La h1)⟩
     case measure=>simp[intOf];omega
    ·go_wp2_with fail;go_ret2;exact⟨iS (Av HR.out au (u8T h1)) (by simp[jL]) rfl,rfl⟩
   ·go_wp2_with fail;go_ret2;exact⟨iS (Au HR.out (by omega)) rfl rfl,rfl⟩
theorem qP (s:ByteArray) (i:Nat) (w:World) (hs:s.size≤281474976710656) (hi:i<s.size) (T:Option Nat) (hT:eZ s s[i] T (i+1)) (hq:s[i]≠96)
  (b1 b2:Bool) (aU:((s[i].toNat:Int) != 34)=b1) (aM:((s[i].toNat:Int) != 39)=b2) (fa:((s[i].toNat:Int)==96)=false) (yp:(b1&&b2)=false):
  Calls prog 149 #[.string s,.int .i64 (i:Int)] w fun e w'=>e= .returned (.tuple #[.int .i64 (jL T),.int .i64 (oc 10 T)])∧w=w':=by
 have ti:decide ((i:Int)<0)=false:=by simp
 have hi1:decide (s.size≤i)=false:=by simpa using hi
 have xa:decide ((s.size:Int)≤(i:Int))=false:=by simpa using hi
 have HT:=aa hT;have HQ:=aa hq;clear hT hq;cases b1<;>cases b2<;>first|(simp at yp;done)|skip
 all_goals
  clear yp;go_enter func149,ntmps149;go_wp2_with fail;go_loop [7] (fun t=> ∃k:Nat,k≤s.size+1∧t= .int .i64 k∧eZ s s[i] T k) (fun t=>s.size+1-(intOf t).toNat)
  case atStart=>exact⟨i+1,by omega,by go_num,HT.out⟩
  case round=>
   obtain⟨k,hk,rfl,hrel⟩:=hrel;clear HT;have HR:=aa hrel;clear hrel;by_cases au:k<s.size
   ·cases h1:((s[k].toNat:Int)==(s[i].toNat:Int))
    ·cases h2:((s[k].toNat:Int)==10)
     ·cases h3:((s[k].toNat:Int)==92)
      ·go_wp2_with fail;go_round
       case rel=>exact⟨k+1,by omega,by go_num,ET HR.out HQ.out au (La h1) (pO (n:=10) (by omega) rfl h2) (pO (n:=92) (by omega) rfl h3)⟩
       case measure=>simp[intOf];omega
      ·by_cases oe:k+1<s.size
       ·cases h4:((s[k+1].toNat:Int)==10)
        ·go_wp2_with fail;go_round
         case rel=>first|exact⟨k+2,by omega,by go_num,Aw HR.out HQ.out oe (La h1) (oD (n:=92) (by omega) rfl h3) (pO (n:=10) (by omega) rfl h4)⟩|((repeat apply Exists.intro);exact⟨⟨k+2,by omega,by go_num,Aw HR.out HQ.out oe (La h1) (oD (n:=92) (by omega) rfl h3) (pO (n:=10) (by omega) rfl h4)⟩,rfl⟩)
         case measure=>simp[intOf];omega
        ·go_wp2_with fail;go_ret2;exact⟨iS (B7 HR.out HQ.out oe (La h1) (oD (n:=92) (by omega) rfl h3) (oD (n:=10) (by omega) rfl h4)) rfl rfl,rfl⟩
       ·go_wp2_with fail;go_round
        case rel=>first|exact⟨k+2,by omega,by go_num,nK HR.out (by omega) (La h1)⟩|((repeat apply Exists.intro);exact⟨⟨k+2,by omega,by go_num,nK HR.out (by omega) (La h1)⟩,rfl⟩)
        case measure=>simp[intOf];omega
     ·go_wp2_with fail;go_ret2;exact⟨iS (T0 HR.out HQ.out au (La h1) (oD (n:=10) (by omega) rfl h2)) rfl rfl,rfl⟩
    ·go_wp2_with fail;go_ret2;exact⟨iS (Av HR.out au (u8T h1)) (by simp[jL]) rfl,rfl⟩
   ·go_wp2_with fail;go_ret2;exact⟨iS (Au HR.out (by omega)) rfl rfl,rfl⟩
theorem qu {base:Nat}: ∀{l:List UInt8} {v r:Nat},fi base v l=some r→fy base v l=some r
 |[],v,r,h=>by simpa [fi,fy]using h
 |c::l,v,r,h=>by
  simp only[fi]at h;simp only[fy];cases hd:eY c with
  |none=>rw[hd]at h;simp at h
  |some d=>
   rw[hd]at h;simp only at h ⊢
   by_cases hb:d<base∧v≤8388607
   ·rw[ar hb]at h;rw[ar hb.1];exact qu h
   ·rw[af hb]at h;simp at h
theorem EU {base:Nat} (hb:1≤base): ∀{l:List UInt8} {v r:Nat},fy base v l=some r→v≤r
 |[],v,r,h=>by simp[fy]at h;omega
 |c::l,v,r,h=>by
  simp only[fy]at h;cases hd:eY c with
  |none=>rw[hd]at h;simp at h
  |some d=>
   rw[hd]at h;simp only at h;split at h
   ·have:=EU hb h;have h2:v*1≤v*base:=uj v hb;omega
   ·simp at h
theorem rW {base:Nat} (hb:1≤base): ∀{l:List UInt8} {v r:Nat},fy base v l=some r→r≤8388607→fi base v l=some r
 |[],v,r,h,_=>by simpa [fi,fy]using h
 |c::l,v,r,h,hr=>by
  have hv:=EU hb h;simp only[fy]at h;simp only[fi];cases hd:eY c with
  |none=>rw[hd]at h;simp at h
  |some d=>
   rw[hd]at h;simp only at h ⊢
   by_cases SC:d<base
   ·rw[ar SC]at h;rw[ar ⟨SC,by omega⟩];exact rW hb h hr
   ·rw[af SC]at h;simp at h
theorem BB (hb:1≤base) (hn: ∀r,fe l n base=some r→r≤8388607):fP l n base=fe l n base:=by
 unfold fP;unfold fe at hn ⊢
 split
 ·rfl
 ·rename_i hl;rw[af hl]at hn;cases h:fy base 0 (l.take n)with
  |some r=>exact rW hb h (hn r h)
  |none=>
   cases h':fi base 0 (l.take n)with
   |none=>rfl
   |some r=>rw[qu h']at h;simp at h
theorem EV {base:Nat}: ∀{l:List UInt8} {v r:Nat},fy base v l=some r→r<(v+1)*base^l.length
 |[],v,r,h=>by simp[fy]at h;simp;omega
 |c::l,v,r,h=>by
  simp only[fy]at h;cases hd:eY c with
  |none=>rw[hd]at h;simp at h
  |some d=>
   rw[hd]at h;simp only at h;split at h
   ·rename_i SC;have:=EV h;have h2:v*base+d+1≤(v+1)*base:=by rw[oK];omega
    have h3:=fc (base^l.length) h2;rw[dI,ef,fu (base^l.length) base,←bV];omega
   ·simp at h
theorem sw {r:Nat} (hb:1≤base) (h:fe l n base=some r):r<base^n:=by
 unfold fe at h;split at h
 ·simp at h
 ·have:=EV h;have h2:(l.take n).length≤n:=List.length_take_le n l;have h3:=ee hb h2;omega
theorem B8 (l:List UInt8):fP l 2 16=fe l 2 16:=BB (by omega) fun r h=>by have:=sw (by omega) h;omega
theorem Mt (l:List UInt8):fP l 4 16=fe l 4 16:=BB (by omega) fun r h=>by have:=sw (by omega) h;omega
theorem Qm (l:List UInt8):fP l 3 8=fe l 3 8:=BB (by omega) fun r h=>by have:=sw (by omega) h;omega
theorem uA (h:ba n=true):n≤1114111:=by simp[ba]at h;omega
theorem Mu (l:List UInt8) (F:Nat→Option (List UInt8×Nat)):((fP l 8 16).bind fun v=>if ba v then F v else none)=((fe l 8 16).bind fun v=>if ba v then F v else none):=by
 unfold fP fe;split
 ·rfl
 ·cases h:fi 16 0 (l.take 8)with
  |some r=>rw[qu h]
  |none=>
   cases h':fy 16 0 (l.take 8)with
   |none=>rfl
   |some r=>
    cases hr:ba r
    ·simp[hr]
    ·rw[rW (by omega) h' (by have:=uA hr;omega)]at h;simp at h
def ri (q:UInt8) (l:List UInt8):List UInt8×Nat:=(dJ q l).getD ([],0)
theorem Qn (h:ew c=true):ri q (c::r)=([ln c],1):=by simp[ri,dJ,h]
theorem I9 (h:ew c=false) (h2:c=92∨c=q):ri q (c::r)=([c],1):=by simp[ri,dJ,h,h2]
theorem agh (hc:c=120) (hq:c≠q):ri q (c::r)=match fP r 2 16 with|some v=>([UInt8.ofNat v],3)|none=>([],0):=by
 subst hc;rw[B8];have h1: ¬((120:UInt8)=92∨(120:UInt8)=q):=by rintro(h|h)<;>first|exact hq h|exact absurd h (by decide)
 have h0:ew 120=false:=by decide
 unfold ri dJ;simp only[h0,h1,iE,kJ,lh];cases fe r 2 16<;>rfl
theorem agi (hc:c=117) (hq:c≠q):ri q (c::r)=match fP r 4 16 with|some v=>if ba v then(fO v,5)else([],0)|none=>([],0):=by
 subst hc;rw[Mt];have h1: ¬((117:UInt8)=92∨(117:UInt8)=q):=by rintro(h|h)<;>first|exact hq h|exact absurd h (by decide)
 have h0:ew 117=false:=by decide
 have h2: ¬((117:UInt8)=120):=by decide
 unfold ri dJ;simp only[h0,h1,h2,iE,kJ,lh];cases fe r 4 16 with
 |none=>rfl
 |some v=>cases h:ba v<;>simp[h]
theorem agj (hc:c=85) (hq:c≠q):ri q (c::r)=match fP r 8 16 with|some v=>if ba v then(fO v,9)else([],0)|none=>([],0):=by
 subst hc;have h1: ¬((85:UInt8)=92∨(85:UInt8)=q):=by rintro(h|h)<;>first|exact hq h|exact absurd h (by decide)
 have h0:ew 85=false:=by decide
 have h2: ¬((85:UInt8)=120):=by decide
 have h3: ¬((85:UInt8)=117):=by decide
 unfold ri dJ;simp only[h0,h1,h2,h3,iE,kJ,lh];rw[←Mu];cases fP r 8 16 with
 |none=>rfl
 |some v=>cases h:ba v<;>simp[h]
theorem Yq (h0:ew c=false) (h1:c≠92) (hq:c≠q) (h2:c≠120) (h3:c≠117) (h4:c≠85):ri q (c::r)=match fP (c::r) 3 8 with|some v=>if v≤255 then([UInt8.ofNat v],3)else([],0)|none=>([],0):=by
 rw[Qm];have h5: ¬(c=92∨c=q):=by rintro(h|h)<;>first|exact hq h|exact h1 h
 unfold ri dJ;simp only[h0,h5,h2,h3,h4,iE,lh];cases fe (c::r) 3 8 with
 |none=>rfl
 |some v=>by_cases h:v≤255<;>simp[h]
theorem fW (s:ByteArray) (k:Nat):(s.extract k s.size).data.toList=s.data.toList.drop k:=by
 rw[Lib.extract_data,DC (by simp)]
theorem fz (s:ByteArray) (k:Nat):(s.extract 0 k).data.toList=s.data.toList.take k:=by
 rw[Lib.extract_data];simp
def gS (c:UInt8):Bool:=digit c||(97≤c.toNat&&c.toNat≤102)||(65≤c.toNat&&c.toNat≤70)
def tj (c:UInt8):Bool:=c.toNat==101||c.toNat==69
def zV (c:UInt8):Bool:=c.toNat==43||c.toNat==45
def tZ (c:UInt8):Bool:=c.toNat==120||c.toNat==88
def dF (l:List UInt8) (i:Nat):Nat:=if i+1<l.length∧zV (an l (i+1))=true then i+2 else i+1
def cQ (l:List UInt8) (i:Nat):Nat:=
 if l.length≤i∨tj (an l i)=false then i
 else if dF l i<ae digit l (dF l i)then ae digit l (dF l i)else i
def aO (l:List UInt8):Bool:=decide (2<l.length)&&(an l 0).toNat==48&&tZ (an l 1)&&gS (an l 2)
def aI (l:List UInt8):Nat:=
 if ae digit l 0<l.length∧(an l (ae digit l 0)).toNat=46∧0<ae digit l 0 then ae digit l (ae digit l 0+1)
 else if ae digit l 0=0∧1<l.length∧(an l 0).toNat=46∧digit (an l 1)=true then ae digit l 1
 else ae digit l 0
def ag (l:List UInt8):Nat:=
 if aO l=true then ae gS l 2 else if aI l=0 then 0 else cQ l (aI l)
theorem nL (l:List UInt8) (i:Nat) (h:i<l.length):i+1≤dF l i∧dF l i≤l.length:=by
 unfold dF;split<;>omega
theorem lZ (l:List UInt8) (i:Nat) (h:i≤l.length):i≤cQ l i∧cQ l i≤l.length:=by
 unfold cQ;split
 ·omega
 ·have h1:=nL l i (by omega);have h2:=bI digit l (dF l i) h1.2;split<;>omega
theorem l9 (l:List UInt8):aI l≤l.length:=by
 unfold aI;have h0:=bI digit l 0 (aT _);split
 ·exact bI digit l _ (by omega)
 ·split
  ·exact bI digit l _ (by omega)
  ·exact h0
theorem qv (l:List UInt8):ag l≤l.length:=by
 unfold ag;split
 ·rename_i h;simp[aO]at h;exact bI gS l 2 (by omega)
 ·split
  ·omega
  ·exact(lZ l _ (l9 l)).2
theorem agk (h:aO s.data.toList=false) (hk:ae digit s.data.toList 0=k) (h1:k<s.size) (h2:((s[k].toNat:Int)==46)=true) (h3:0<k):ag s.data.toList=cQ s.data.toList (ae digit s.data.toList (k+1)):=by
 have h4:s[k].toNat=46:=by have:(s[k].toNat:Int)=46:=cn.1 h2;omega
 have h5:aI s.data.toList=ae digit s.data.toList (k+1):=by
  rw[aI,hk,ar ⟨by rw[ab];exact h1,by rw[aq h1];exact h4,h3⟩]
 have:=aV digit s.data.toList (k+1);rw[ag,h,h5,af (by simp),af (by omega)]
theorem agl (h:aO s.data.toList=false) (hk:ae digit s.data.toList 0=0) (h1:1<s.size) (h2:((s[0].toNat:Int)==46)=true) (h3:digit s[1]=true):ag s.data.toList=cQ s.data.toList (ae digit s.data.toList 1):=by
 have h4:s[0].toNat=46:=by have:(s[0].toNat:Int)=46:=cn.1 h2;omega
 have h5:aI s.data.toList=ae digit s.data.toList 1:=by
  rw[aI,hk,af (by omega),ar ⟨rfl,by rw[ab];exact h1,by rw[aq (by omega)];exact h4,by rw[aq h1];exact h3⟩]
 have:=aV digit s.data.toList 1;rw[ag,h,h5,af (by simp),af (by omega)]
theorem agm (h:aO s.data.toList=false) (hk:ae digit s.data.toList 0=k) (h0:k≠0) (h1: ∀h:k<s.size,((s[k].toNat:Int)==46)=false):ag s.data.toList=cQ s.data.toList k:=by
 have h5:aI s.data.toList=k:=by
  rw[aI,hk,af,af (by omega)];rintro⟨ha,hb,_⟩;rw[ab]at ha;rw[aq ha]at hb;have:=bK.1 (h1 ha);omega
 rw[ag,h,h5,af (by simp),af h0]
theorem agn (h:aO s.data.toList=false) (hk:ae digit s.data.toList 0=0) (h1: ∀h:1<s.size,((s[0].toNat:Int)==46)=true→digit s[1]=false):ag s.data.toList=0:=by
 have h5:aI s.data.toList=0:=by
  rw[aI,hk,af (by omega),af];rintro⟨_,ha,hb,hc⟩;rw[ab]at ha;rw[aq (by omega)]at hb;rw[aq ha,h1 ha (by rw[cn];omega)]at hc;simp at hc
 rw[ag,h,h5,af (by simp),ar rfl]
theorem Yr (h:aO s.data.toList=true): ∃h:2<s.size,((s[0].toNat:Int)==48)=true∧gS s[2]=true∧((((s[1].toNat:Int)==120)=true)∨(((s[1].toNat:Int)==120)=false∧((s[1].toNat:Int)==88)=true)):=by
 simp only[aO,kF,uk,ab]at h;obtain⟨⟨⟨h1,h2⟩,h3⟩,h4⟩:=h;rw[aq (by omega)]at h2 h3;rw[aq h1]at h4;refine⟨h1,by simp at h2 ⊢;omega,h4,?_⟩;simp[tZ]at h3 ⊢
 omega
theorem abZ (h:aO s.data.toList=false): ¬2<s.size∨ ∃h:2<s.size,((s[0].toNat:Int)==48)=false∨((s[0].toNat:Int)==48)=true∧((((s[1].toNat:Int)==120)=false∧((s[1].toNat:Int)==88)=false)∨((s[1].toNat:Int)==120)=true∧gS s[2]=false∨((s[1].toNat:Int)==120)=false∧((s[1].toNat:Int)==88)=true∧gS s[2]=false):=by
 by_cases h1:2<s.size
 ·refine .inr ⟨h1,?_⟩;simp only[aO,ab,dQ h1,mA]at h;rw[aq (by omega),aq (by omega),aq h1]at h;cases h2:((s[0].toNat:Int)==48)
  ·exact .inl rfl
  ·refine .inr ⟨rfl,?_⟩;have h2':(s[0].toNat==48)=true:=by simp at h2 ⊢;omega
   rw[h2',mA]at h;cases h3:((s[1].toNat:Int)==120)
   ·cases h4:((s[1].toNat:Int)==88)
    ·exact .inl ⟨rfl,rfl⟩
    ·have:tZ s[1]=true:=by simp[tZ]at h4 ⊢;omega
     rw[this,mA]at h;exact .inr (.inr ⟨rfl,rfl,h⟩)
   ·have:tZ s[1]=true:=by simp[tZ]at h3 ⊢;omega
    rw[this,mA]at h;exact .inr (.inl ⟨rfl,h⟩)
 ·exact .inl h1
theorem Mv (h:(i:Int)=(s.size:Int)):cQ s.data.toList i=i:=by
 rw[cQ,ar (.inl (by rw[ab];omega))]
theorem Qo (h:i<s.size) (h1:(s[i].toNat:Int)≠101) (h2:(s[i].toNat:Int)≠69):cQ s.data.toList i=i:=by
 rw[cQ,ar (.inr (by rw[aq h,tj];simp;omega))]
theorem Ja (h:i+1<s.size) (h2:(s[i+1].toNat:Int)=43∨(s[i+1].toNat:Int)=45):dF s.data.toList i=i+2:=by
 rw[dF,ar ⟨by rw[ab];exact h,by rw[aq h,zV];simp;omega⟩]
theorem Jb (h2: ∀h:i+1<s.size,(s[i+1].toNat:Int)≠43∧(s[i+1].toNat:Int)≠45):dF s.data.toList i=i+1:=by
 rw[dF,af];rintro⟨ha,hb⟩;rw[ab]at ha;rw[aq ha,zV]at hb;have:=h2 ha;simp at hb;omega
theorem Mw (h:i<s.size) (h1:(s[i].toNat:Int)=101∨(s[i].toNat:Int)=69) (hj:dF s.data.toList i=j) (hk:ae digit s.data.toList j=k) (au:j<k):cQ s.data.toList i=k:=by
 rw[cQ,hj,hk,af,ar au];rw[ab,aq h,tj];simp;omega
theorem J6 (hj:dF s.data.toList i=j) (hk:ae digit s.data.toList j=k) (au: ¬j<k):cQ s.data.toList i=i:=by
 rw[cQ,hj,hk,af au,ite_self]
theorem nM (s:ByteArray) (i:Nat) (w:World) (hs:s.size≤281474976710656):
  Calls prog 149 #[.string s,.int .i64 (i:Int)] w fun e w'=>e= .returned (.tuple #[.int .i64 (jL (bz s.data.toList i)),.int .i64 (oc 10 (bz s.data.toList i))])∧w=w':=by
 by_cases hi:i<s.size
 ·have SD:i<s.data.toList.length:=by rw[ab];exact hi
  have cB:=aq hi;by_cases hq:dB s[i]=true
  ·have hT:eZ s s[i] (bz s.data.toList i) (i+1):=by
    refine⟨by omega,?_⟩;rw[bz,ar ⟨SD,by rw[cB];exact hq⟩,cB];rfl
   by_cases SE:s[i]=96
   ·have e:s[i].toNat=96:=by rw[SE];rfl
    exact Ae s i w hs hi _ hT SE (by rw[ju];omega) (by rw[ju];omega) (by rw[e];rfl) (by rw[e];rfl)
   ·have e:s[i].toNat=34∨s[i].toNat=39:=by
     simp only[dB,tD,cn]at hq;rcases hq with(h|h)|h
     ·left;rw[h];rfl
     ·right;rw[h];rfl
     ·exact absurd h SE
    rcases e with e|e
    ·exact qP s i w hs hi _ hT SE false true (by rw[e];rfl) (by rw[e];rfl) (by rw[e];rfl) rfl
    ·exact qP s i w hs hi _ hT SE true false (by rw[e];rfl) (by rw[e];rfl) (by rw[e];rfl) rfl
  ·have hT:bz s.data.toList i=none:=by rw[bz,af];rw[cB];exact fun h=>hq h.2
   rw[hT];have h1:s[i].toNat≠34:=fun e=>hq (by simp[dB,cD (n:=34) (by omega) e])
   have h2:s[i].toNat≠39:=fun e=>hq (by simp[dB,cD (n:=39) (by omega) e])
   have h3:s[i].toNat≠96:=fun e=>hq (by simp[dB,cD (n:=96) (by omega) e])
   exact CO s i w hi (by omega) (by omega) (by omega)
 ·have hT:bz s.data.toList i=none:=by rw[bz,af];rw[ab];exact fun h=>hi h.1
  rw[hT];exact Ad s i w (by omega)
def nc (c:UInt8):Int:=match eY c with|some d=>d|none=> -1
theorem xL (c:UInt8) (w:World):
  Calls prog 186 #[.int .u8 (c.toNat:Int)] w fun e w'=>e= .returned (.int .i32 (nc c))∧w=w':=by
 by_cases h1:48≤c.toNat∧c.toNat≤57
 ·have hf:=aa (show nc c=(c.toNat:Int)-48 by rw[nc,eY,ar h1];simp;omega);obtain⟨h1,h2⟩:=h1;go_enter func186,ntmps186;go_wp2_with fail;go_ret;exact⟨aE (by rw[hf.out]),rfl⟩
 ·by_cases h2:97≤c.toNat∧c.toNat≤102
  ·have hf:=aa (show nc c=(c.toNat:Int)-97+10 by rw[nc,eY,af h1,ar h2];simp;omega);obtain⟨h2,h3⟩:=h2;clear h1;go_enter func186,ntmps186;go_wp2_with fail;go_ret;exact⟨aE (by rw[hf.out]),rfl⟩
  ·by_cases h3:65≤c.toNat∧c.toNat≤70
   ·have hf:=aa (show nc c=(c.toNat:Int)-65+10 by rw[nc,eY,af h1,af h2,ar h3];simp;omega);obtain⟨h3,h4⟩:=h3;clear h1 h2;go_enter func186,ntmps186;go_wp2_with fail;go_ret;exact⟨aE (by rw[hf.out]),rfl⟩
   ·have hf:=aa (show nc c= -1 by rw[nc,eY,af h1,af h2,af h3]);have hc:c.toNat<48∨(57<c.toNat∧c.toNat<65)∨(70<c.toNat∧c.toNat<97)∨102<c.toNat:=by omega
    clear h1 h2 h3;rcases hc with h|⟨h,h'⟩|⟨h,h'⟩|h
    all_goals
     go_enter func186,ntmps186;go_wp2_with fail;go_ret;exact⟨aE (by rw[hf.out]),rfl⟩
theorem Qp (c:UInt8) (w:World):
  Calls prog 174 #[.int .u8 (c.toNat:Int)] w fun e w'=>e= .returned (.int .u8 ((ln c).toNat:Int))∧w=w':=by
 have key: ∀n:Nat,n<256→c.toNat=n→c=UInt8.ofNat n:=fun n hn h=>cD hn h
 by_cases h:c.toNat=97∨c.toNat=98∨c.toNat=116∨c.toNat=110∨c.toNat=118∨c.toNat=102
 ·rcases h with h|h|h|h|h|h
  all_goals
   have hc:=key _ (by omega) h;clear key h;subst hc;go_enter func174,ntmps174;go_wp2_with fail;go_ret;exact⟨rfl,rfl⟩
 ·have hf:=aa (show ln c=13 by
   have n1:c≠97:=fun e=>h (by rw[e];decide)
   have n2:c≠98:=fun e=>h (by rw[e];decide)
   have n3:c≠116:=fun e=>h (by rw[e];decide)
   have n4:c≠110:=fun e=>h (by rw[e];decide)
   have n5:c≠118:=fun e=>h (by rw[e];decide)
   have n6:c≠102:=fun e=>h (by rw[e];decide)
   simp[ln,n1,n2,n3,n4,n5,n6])
  have a1:((c.toNat:Int)==97)=false:=by rw[bK];omega
  have a2:((c.toNat:Int)==98)=false:=by rw[bK];omega
  have a3:((c.toNat:Int)==116)=false:=by rw[bK];omega
  have a4:((c.toNat:Int)==110)=false:=by rw[bK];omega
  have a5:((c.toNat:Int)==118)=false:=by rw[bK];omega
  have a6:((c.toNat:Int)==102)=false:=by rw[bK];omega
  clear key h;go_enter func174,ntmps174;go_wp2_with fail;go_ret;exact⟨aE (by rw[hf.out];rfl),rfl⟩
set_option maxRecDepth 1000000 in
theorem Mx (n:Nat) (w:World):
  Calls prog 176 #[.int .i32 (n:Int)] w fun e w'=>e= .returned (.bool (ba n))∧w=w':=by
 go_enter func176,ntmps176;go_wp2
 all_goals (go_ret;exact⟨ah (by rw[eE];simp[ba];omega),rfl⟩)
theorem ago (n:Nat) (h:n<2147483648):bits BinOp.and IntKind.i32 (n:Int) 63=((n%64:Nat):Int):=by
 show IntKind.i32.wrap ((BitVec.ofInt 32 (n:Int)&&&BitVec.ofInt 32 (63:Int)).toNat:Int)=_;have e1:(BitVec.ofInt 32 (n:Int)).toNat=n:=by rw[BitVec.ofInt_natCast,BitVec.toNat_ofNat];exact td (by omega)
 have e2:(BitVec.ofInt 32 (63:Int)).toNat=2^6-1:=by decide
 rw[BitVec.toNat_and,e1,e2,DB,IntKind.wrap_i32];omega
theorem agp: ∀x:Fin 64,bits BinOp.or IntKind.u8 128 ((x.val:Nat):Int)=128+((x.val:Nat):Int):=by decide+kernel
theorem vX (n:Nat) (w:World) (hn:n≤1114111):
  Calls prog 187 #[.int .i32 (n:Int)] w fun e w'=>e= .returned (.int .u8 ((UInt8.ofNat (128+n%64)).toNat:Int))∧w=w':=by
 have h1:=ago n (by omega);have h2:=agp ⟨n%64,lE _ (by omega)⟩;have h3:((n%64:Nat):Int)%256=((n%64:Nat):Int):=by omega
 have hf:((UInt8.ofNat (128+n%64)).toNat:Int)=128+((n%64:Nat):Int):=by
  rw[UInt8.toNat_ofNat'];omega
 have HF:=aa hf;clear hf;dsimp only at h2;generalize n%64=m at h1 h2 h3 HF;go_enter func187,ntmps187;go_wp2;go_ret;exact⟨aE (by rw[HF.out];first|done|simp[h1,h2,h3]),rfl⟩
theorem xM (x:Int) (n:Nat) (hx:x=(n:Int)) (w:World) (hn:n≤1114111):
  Calls prog 187 #[.int .i32 x] w fun e w'=>e= .returned (.int .u8 ((UInt8.ofNat (128+n%64)).toNat:Int))∧w=w':=by
 subst hx;exact vX n w hn
theorem fr {a:Act} 
  (hg:o.guard=none) (s x:Operand) (t:TypeId) (Dl:o.op=Op.call {callee:=Callee.builtin Builtin.append,args:=#[s,x],argTypes:=#[t,t]})
  (base:Nat) (e:TypeId) (z:Value) (size bytes:Nat) (oL:(P.info? e).map (fun i=>(i.zero,i.size,i.bytes))=some (some z,size,bytes)) (h1:P.underlying t=some (.slice e)) (Py:z.cells.size=size) (jf:0<size)
  (v:Value) (n:Nat) (xs:List Value) (hs:a.eval s=v) (aL:w0.ownsRow base e size v n xs) (m:Nat) (us:List Value) (hus:us.length=m*size)
  (hx:a.eval x= .slice (some ⟨w0.heap.size,0,none⟩) m m) (Xf: ∀u∈us,u.oneCell'=true) (xn:n+m≤maxLen) (hb:(n+m)*bytes≤140737488355328) (cU:base≤w0.heap.size)
  (hK: ∀v' w',w'.ownsRow base e size v' (n+m) (xs++us)→w0.grownBy w' v.ownBlock→wpList P ops Q rest (a.put o.dst v') w'):
  wpList P ops Q (o::rest) a (w0.alloc (.cells us.toArray e)):=by
 obtain⟨i,hi,hz,Sz,NV⟩:=mC oL;refine wpList_append_own _ hg s x t Dl base e i z size bytes h1 hi hz Sz NV Py jf v n xs hs (aL.alloc _) ⟨w0.heap.size,0,none⟩ m m us hx hus ?_ Xf xn hb (by simp;omega) ?_
 ·intro j u hu;have hj:j<us.length:=(FX.1 hu).1;rw[mB,mw,zS _ _ _ _ rfl];simpa using hu
 ·intro v' w' ho iu _;exact hK v' w' ho (dh (Er w0 _ _) iu)
theorem yI: ∀(l:List Int),∀u∈l.map (Value.int .u8),u.oneCell'=true:=ints_oneCell _
theorem iT:(prog.info? 5).map (fun i=>(i.zero,i.size,i.bytes))=some (some (.int .u8 0),1,1):=by kernel_rfl
def oS (w:World) (v:Value) (base k:Nat) (bs new:List UInt8) (e:Ending) (w':World):Prop:=
 ∃v',e= .returned v'∧w'.ownsRow base 5 1 v' (k+new.length) (cellsOf (bs++new))∧w.grownBy w' v.ownBlock
theorem sD (m:Nat) (hm:m=new.length) (aL:w'.ownsRow base 5 1 v' (k+m) (cellsOf bs++us.map (Value.int .u8))) (hg:w.grownBy w' v.ownBlock)
  (hu:us=new.map fun c=>(c.toNat:Int)):oS w v base k bs new (.returned v') w':=by
 subst hm hu;refine⟨v',rfl,?_,hg⟩;rw[fM];simpa [cellsOf,List.map_map,IM]using aL
theorem Qq (n:Nat) (w:World) (hn:n<128) (v:Value) (base k:Nat) (bs:List UInt8) (aL:w.ownsRow base 5 1 v k (cellsOf bs)) (cU:base≤w.heap.size) (hk:k≤281474976710):
  Calls prog 177 #[v,.int .i32 (n:Int)] w (oS w v base k bs [UInt8.ofNat n]):=by
 go_enter func177,ntmps177;go_wp2_with (at_builtin;refine fr rfl (.tmp 8) (.tmp 11) 147 rfl base 5 (.int .u8 0) 1 1 iT underlying147 rfl (by omega) v k _ rfl aL 1 _ rfl rfl (yI [(n:Int)]) (by unfold maxLen;omega) (by omega) cU ?_);intro v' w1 ho hg;have HO:=aa ho;have HG:=aa hg;clear ho hg aL;go_wp2_with fail;go_ret;exact sD (us:=[(n:Int)]) 1 rfl HO.out HG.out (by simp;omega)
theorem Qr (n:Nat) (w:World) (hn:128≤(n:Int)) (xf:(n:Int)<2048) (v:Value) (base k:Nat) (bs:List UInt8) (aL:w.ownsRow base 5 1 v k (cellsOf bs)) (cU:base≤w.heap.size) (hk:k≤281474976710):
  Calls prog 177 #[v,.int .i32 (n:Int)] w (oS w v base k bs [UInt8.ofNat (192+n/64),UInt8.ofNat (128+n%64)]):=by
 go_enter func177,ntmps177;go_wp2_with (first|(go_at_call 187;refine(vX _ _ (by omega)).mono ?_;rintro e w' ⟨rfl,rfl⟩)|(at_builtin;refine fr rfl (.tmp 16) (.tmp 23) 147 rfl base 5 (.int .u8 0) 1 1 iT underlying147 rfl (by omega) v k _ rfl aL 2 _ rfl rfl (yI [_,_]) (by unfold maxLen;omega) (by omega) cU ?_));intro v' w1 ho hg;have HO:=aa ho;have HG:=aa hg;clear ho hg aL;go_wp2_with fail;go_ret;exact sD (us:=[192+(n:Int)/64,(128+(n:Int)%64)%256]) 2 rfl HO.out HG.out (by simp;omega)
theorem Qs (n:Nat) (w:World) (hn:2048≤(n:Int)) (xf:(n:Int)≤65535) (v:Value) (base k:Nat) (bs:List UInt8) (aL:w.ownsRow base 5 1 v k (cellsOf bs)) (cU:base≤w.heap.size) (hk:k≤281474976710):
  Calls prog 177 #[v,.int .i32 (n:Int)] w (oS w v base k bs [UInt8.ofNat (224+n/4096),UInt8.ofNat (128+n/64%64),UInt8.ofNat (128+n%64)]):=by
 have ht:((n:Int)<65536)=True:=az (by omega);go_enter func177,ntmps177;go_wp2_with fail;refine(xM _ (n/64) (by omega) _ (by omega)).mono ?_;rintro e w' ⟨rfl,rfl⟩;go_wp2_with fail;refine(vX n _ (by omega)).mono ?_;rintro e w' ⟨rfl,rfl⟩;go_wp2_with (at_builtin;refine fr rfl (.tmp 28) (.tmp 38) 147 rfl base 5 (.int .u8 0) 1 1 iT underlying147 rfl (by omega) v k _ rfl aL 3 _ rfl rfl (yI [_,_,_]) (by unfold maxLen;omega) (by omega) cU ?_);intro v' w1 ho hg;have HO:=aa ho;have HG:=aa hg;clear ho hg aL;go_wp2_with fail;go_ret;exact sD (us:=[224+(n:Int)/4096,(128+(n:Int)/64%64)%256,(128+(n:Int)%64)%256]) 3 rfl HO.out HG.out (by simp;omega)
theorem Qt (n:Nat) (w:World) (hn:65535<(n:Int)) (xf:(n:Int)≤1114111) (v:Value) (base k:Nat) (bs:List UInt8) (aL:w.ownsRow base 5 1 v k (cellsOf bs)) (cU:base≤w.heap.size) (hk:k≤281474976710):
  Calls prog 177 #[v,.int .i32 (n:Int)] w (oS w v base k bs [UInt8.ofNat (240+n/262144),UInt8.ofNat (128+n/4096%64),UInt8.ofNat (128+n/64%64),UInt8.ofNat (128+n%64)]):=by
 have ht:((n:Int)<65536)=False:=bL (by omega);go_enter func177,ntmps177;go_wp2_with fail;refine(xM _ (n/4096) (by omega) _ (by omega)).mono ?_;rintro e w' ⟨rfl,rfl⟩;go_wp2_with fail;refine(xM _ (n/64) (by omega) _ (by omega)).mono ?_;rintro e w' ⟨rfl,rfl⟩;go_wp2_with fail;refine(vX n _ (by omega)).mono ?_;rintro e w' ⟨rfl,rfl⟩;go_wp2_with (at_builtin;refine fr rfl (.tmp 40) (.tmp 53) 147 rfl base 5 (.int .u8 0) 1 1 iT underlying147 rfl (by omega) v k _ rfl aL 4 _ rfl rfl (yI [_,_,_,_]) (by unfold maxLen;omega) (by omega) cU ?_);intro v' w1 ho hg;have HO:=aa ho;have HG:=aa hg;clear ho hg aL;go_wp2_with fail;go_ret;exact sD (us:=[240+(n:Int)/262144,(128+(n:Int)/4096%64)%256,(128+(n:Int)/64%64)%256,(128+(n:Int)%64)%256]) 4 rfl HO.out HG.out (by simp;omega)
theorem UB (n:Nat) (w:World) (hn:n≤1114111) (v:Value) (base k:Nat) (bs:List UInt8) (aL:w.ownsRow base 5 1 v k (cellsOf bs)) (cU:base≤w.heap.size) (hk:k≤281474976710):
  Calls prog 177 #[v,.int .i32 (n:Int)] w (oS w v base k bs (fO n)):=by
 unfold fO;split
 ·exact Qq n w (by omega) v base k bs aL cU hk
 ·split
  ·exact Qr n w (by omega) (by omega) v base k bs aL cU hk
  ·split
   ·exact Qs n w (by omega) (by omega) v base k bs aL cU hk
   ·exact Qt n w (by omega) (by omega) v base k bs aL cU hk
theorem EW (h:eY c=some d):nc c=d:=by rw[nc,h]
theorem EX (h:eY c=none):nc c= -1:=by rw[nc,h]
theorem EY (h:eY c=some d):d<16:=by
 unfold eY at h
 repeat' split at h
 all_goals simp at h
 all_goals omega
theorem B9 (s:ByteArray) (x:Int) (n:Nat) (hx:x=(n:Int)) (b:Int) (base:Nat) (hb:b=(base:Int)) (w:World) (hs:s.size≤281474976710656) (hn:n≤8) (cU:base=8∨base=16):
  Calls prog 175 #[.string s,.int .i64 x,.int .i32 b] w fun e w'=>e= .returned (.tuple #[.int .i32 (jL (fP s.data.toList n base)),.bool (fP s.data.toList n base).isSome])∧Below w.heap.size w w':=by
 subst hx hb;by_cases hl:s.size<n
 ·have hT:fP s.data.toList n base=none:=by rw[fP,ar (by rw[ab];exact hl)]
  rw[hT];go_enter func175,ntmps175;go_wp2_with fail;go_ret2;exact⟨rfl,aS _ _⟩
 ·obtain⟨D,hD⟩: ∃D,D=s.data.toList.take n:=⟨_,rfl⟩;have hDl:D.length=n:=by rw[hD,nZ,ab];omega
  have hT:fP s.data.toList n base=fi base 0 D:=by rw[fP,af (by rw[ab];exact hl),hD]
  rw[hT];generalize kC:fi base 0 D=T;have HX:=aa hD;have HD:=aa hDl;have HT:=aa kC;have aU:8≤base∧base≤16:=by omega
  obtain⟨aU,aM⟩:=aU;clear hT kC hD hDl cU;go_enter func175,ntmps175;go_wp2_with (with_reducible refine jI rfl (.tmp 18) 9 147 5 rfl (s.extract 0 n) rfl underlying9 underlying147 underlying5 ?_);intro cap w1 uu Dp tG afl;rw[←HX.out]at Dp;have It:min n s.size=n:=by omega
  rw[It]at uu ⊢
  clear It;go_wp2_with fail;go_loop [8,21] (fun v i=> ∃k vv:Nat,k≤n∧i= .int .i64 k∧v= .int .i32 vv∧vv≤134217727∧Hid (fi base vv (D.drop k)=T)) (fun _ i=>n-(intOf i).toNat)
  case atStart=>exact⟨0,0,aT _,rfl,rfl,by omega,HT⟩
  case round=>
   obtain⟨k,vv,hk,rfl,rfl,SF,hT⟩:=hrel;clear HX HT;by_cases au:k<n
   ·have hkD:k<D.length:=by rw[HD.out];exact au
    have hc:=Dp.cell hkD;have yJ:D.drop k=D[k]::D.drop (k+1):=nV hkD;have kC:=hT.out;rw[yJ,fi]at kC;clear hT;generalize D[k]=c at hc kC;cases hd:eY c with
    |none=>
     have ua:=EX hd;rw[hd]at kC;have HT:=aa kC;clear kC hd yJ Dp;go_wp2_with (go_at_call 186;refine(xL _ _).mono ?_;rintro e w' ⟨rfl,rfl⟩;rw[ua]);go_ret2;exact⟨by rw[←HT.out];rfl,tG⟩
    |some d=>
     have ua:=EW hd;have akk:=EY hd;rw[hd]at kC;simp only at kC;by_cases SC:d<base∧vv≤8388607
     ·rw[ar SC]at kC;obtain⟨asf,akl⟩:=SC;have hmul:vv*base≤8388607*16:=oH akl aM;have υ:((vv*base:Nat):Int)=(vv:Int)*(base:Int):=by simp
      have φ:(vv:Int)*(base:Int)≤134217712:=by omega
      have ao7:0≤(vv:Int)*(base:Int):=by omega
      have HC:=aa υ;have HM:=aa hmul;have HT:=aa kC;clear kC hd yJ Dp υ hmul;go_wp2_with (go_at_call 186;refine(xL _ _).mono ?_;rintro e w' ⟨rfl,rfl⟩;rw[ua]);have hm:=HM.out;have ng:=HC.out;go_round
      case rel=>exact⟨k+1,vv*base+d,by omega,by go_num,by rw[Int.natCast_add,ng],by omega,HT⟩
      case measure=>simp[intOf];omega
     ·rw[af SC]at kC;have HT:=aa kC;have akm:base≤d∨(d<base∧8388607<vv):=by omega
      clear kC hd yJ Dp SC;rcases akm with h|⟨h,h2⟩
      all_goals
       go_wp2_with (go_at_call 186;refine(xL _ _).mono ?_;rintro e w' ⟨rfl,rfl⟩;rw[ua]);go_ret2;exact⟨by rw[←HT.out];rfl,tG⟩
   ·have kC:=hT.out;rw[s9 (by rw[HD.out];omega)]at kC;have HT:=aa kC;clear kC hT Dp;go_wp2_with fail;go_ret2;exact⟨by rw[←HT.out];rfl,tG⟩
def vQ (w:World) (v:Value) (base k:Nat) (bs:List UInt8) (r:List UInt8×Nat) (e:Ending) (w':World):Prop:=
 ∃v',e= .returned (.tuple #[v',.int .i64 (r.2:Int)])∧w'.ownsRow base 5 1 v' (k+r.1.length) (cellsOf (bs++r.1))∧w.grownBy w' v.ownBlock
theorem vY (aL:w'.ownsRow base 5 1 v k (cellsOf bs)) (hg:w.grownBy w' v.ownBlock):vQ w v base k bs ([],0) (.returned (.tuple #[v,.int .i64 0])) w':=
 ⟨v,rfl,by simpa using aL,hg⟩
theorem vZ {x:Int} (m:Nat) (hm:m=new.length) (hx:x=n) (aL:w'.ownsRow base 5 1 v' (k+m) (cellsOf bs++us.map (Value.int .u8))) (hg:w.grownBy w' v.ownBlock)
  (hu:us=new.map fun c=>(c.toNat:Int)):vQ w v base k bs (new,n) (.returned (.tuple #[v',.int .i64 x])) w':=by
 subst hm hu hx;refine⟨v',rfl,?_,hg⟩;rw[fM];simpa [cellsOf,List.map_map,IM]using aL
theorem o3 (h:w.ownsRow base 5 1 v k xs) (hb:Below w.heap.size w w'):w'.ownsRow base 5 1 v k xs:=
 h.kept (eB hb none) (by cases v.ownBlock<;>simp)
theorem oT (h:0<s.size):(s.toList==[])=false∧s.toList.isEmpty=false:=by
 rw[nW];have:0<s.data.toList.length:=by rw[ab];exact h
 cases hl:s.data.toList with
 |nil=>rw[hl]at this;simp at this
 |cons c r=>exact⟨rfl,rfl⟩
theorem head_eq (hl:s.data.toList=c::r) (h0:0<s.size):s[0]=c:=by
 rw[←gl s 0 (by rw[hl];simp)];simp[hl]
theorem Ys (hl:s.data.toList=c::r):(s.extract 1 s.size).data.toList=r:=by
 rw[fW,hl];rfl
theorem CP (q:UInt8) (w:World) (v:Value) (base k:Nat) (bs:List UInt8) (aL:w.ownsRow base 5 1 v k (cellsOf bs)) (cU:base≤w.heap.size) (hk:k≤281474976710):
  Calls prog 161 #[v,.string ⟨#[]⟩,.int .u8 (q.toNat:Int)] w (vQ w v base k bs ([],0)):=by
 have HO:=aa aL;clear aL;go_enter func161,ntmps161;go_wp2_with fail;go_ret2;exact vY HO.out (World.grownBy.refl _ _)
structure IW (s:ByteArray) (w:World) (v:Value) (base k:Nat) (bs:List UInt8):Prop where
 s:s.size≤281474976710656
 o:w.ownsRow base 5 1 v k (cellsOf bs)
 b:base≤w.heap.size
 k:k≤281474976710
def FZ (s:ByteArray) (q:UInt8) (w:World) (v:Value) (base k:Nat) (bs:List UInt8) (r:List UInt8×Nat):Prop:=
 Calls prog 161 #[v,.string s,.int .u8 (q.toNat:Int)] w (vQ w v base k bs r)
def Iu:List Int:=[97,98,116,110,118,102,114,92]
def Iv:List Int:=[97,98,116,110,118,102,114,92,120,117,85]
theorem TD {n:Int} {l:List Int} (h:(x.toNat:Int)=n): ∀t∈l,((x.toNat:Int)==t)=(n==t):=fun t _=>by rw[h]
theorem χ {l:List Int} (h: ∀t∈l,(x.toNat:Int)≠t): ∀t∈l,((x.toNat:Int)==t)=false:=fun t ht=>bK.2 (h t ht)
theorem ψ (h:x≠q):((x.toNat:Int)==(q.toNat:Int))=false:=by
 rw[bK];intro e;exact h (Ba.1 (by omega))
theorem GO (H:IW s w v base k bs) (h0:0<s.size) (hv:(s[0].toNat:Int)∈[(97:Int),98,116,110,118,102,114]):FZ s q w v base k bs ([ln s[0]],1):=by
 obtain⟨hs,aL,cU,hk⟩:=H;unfold FZ;obtain⟨e1,e2⟩:=oT h0;generalize hp:ln s[0]=z;simp only[gq,kE,iN]at hv;rcases hv with hv|hv|hv|hv|hv|hv|hv
 all_goals
  have T:=TD (l:=Iv) hv;simp only[Iu,Iv,gq,yB,kE,EA,EB,jw,Int.reduceBEq]at T;obtain⟨_,_,_,_,_,_,_,_,_,_,_⟩:=T;clear hv;go_enter func161,ntmps161;go_wp2_with (first|(go_at_call 174;refine(Qp _ _).mono ?_;rintro e w' ⟨rfl,rfl⟩;rw[hp])|(at_builtin;refine fr rfl (.tmp 45) (.tmp 48) 147 rfl base 5 (.int .u8 0) 1 1 iT underlying147 rfl (by omega) v k _ rfl aL 1 _ rfl rfl (yI [_]) (by unfold maxLen;omega) (by omega) cU ?_));intro v' w1 ho hg;have HO:=aa ho;have HG:=aa hg;clear ho hg aL;go_wp2_with fail;go_ret2;exact vZ (us:=[(z.toNat:Int)]) 1 rfl rfl HO.out HG.out rfl
theorem yU (H:IW s w v base k bs) (h0:0<s.size) (hv:(s[0].toNat:Int)=92∨(∀t∈Iu,(s[0].toNat:Int)≠t)∧s[0]=q):FZ s q w v base k bs ([s[0]],1):=by
 obtain⟨hs,aL,cU,hk⟩:=H;unfold FZ;obtain⟨e1,e2⟩:=oT h0;have T:(∀t∈Iu,((s[0].toNat:Int)==t)=(92==t))∨(∀t∈Iu,((s[0].toNat:Int)==t)=false)∧((s[0].toNat:Int)==(q.toNat:Int))=true:=hv.imp TD fun h=>⟨χ h.1,by rw[h.2];simp⟩
 clear hv;rcases T with T|⟨T,tq⟩
 all_goals
  simp only[Iu,Iv,gq,yB,kE,EA,EB,jw,Int.reduceBEq]at T;obtain⟨_,_,_,_,_,_,_,_⟩:=T;go_enter func161,ntmps161;go_wp2_with (at_builtin;refine fr rfl (.tmp 54) (.tmp 56) 147 rfl base 5 (.int .u8 0) 1 1 iT underlying147 rfl (by omega) v k _ rfl aL 1 _ rfl rfl (yI [_]) (by unfold maxLen;omega) (by omega) cU ?_);intro v' w1 ho hg;have HO:=aa ho;have HG:=aa hg;clear ho hg aL;go_wp2_with fail;go_ret2;exact vZ (us:=[(s[0].toNat:Int)]) 1 rfl rfl HO.out HG.out rfl
theorem Ca (H:IW s w v base k bs) (h0:0<s.size) (hq:s[0]≠q) {N:Nat} (hv:(s[0].toNat:Int)=120∧N=2∨(s[0].toNat:Int)=117∧N=4∨(s[0].toNat:Int)=85∧N=8) {D:Option Nat} (hd:fP (s.extract 1 s.size).data.toList N 16=D) {r:List UInt8×Nat}
  (hr:D=none∧r=([],0)∨(∃V,D=some V∧N=2∧V<256∧r=([UInt8.ofNat V],3))∨(∃V:Nat,D=some V∧N≠2∧ba V=false∧(V:Int)≤134217727∧r=([],0))∨ ∃V,D=some V∧N≠2∧ba V=true∧r=(fO V,N+1)):FZ s q w v base k bs r:=by
 obtain⟨hs,aL,cU,hk⟩:=H;unfold FZ;obtain⟨e1,e2⟩:=oT h0;have tq:=ψ hq;have HX:Hid ((s.extract 1 s.size).size≤281474976710656):=aa (by simp;omega);have HR:=aa hr;have HD:=aa hd;clear hq hr hd;rcases hv with⟨hv,hN⟩|⟨hv,hN⟩|⟨hv,hN⟩
 all_goals
  have T:=TD (l:=Iv) hv;simp only[Iu,Iv,gq,yB,kE,EA,EB,jw,Int.reduceBEq]at T;obtain⟨_,_,_,_,_,_,_,_,_,_,_⟩:=T;clear hv;go_enter func161,ntmps161;go_wp2_with fail;refine(B9 (s.extract 1 s.size) _ N (by omega) _ 16 (by omega) _ HX.out (by omega) (.inr rfl)).mono ?_;rintro e w1 ⟨rfl,hb⟩;rw[HD.out];have mD:=o3 aL hb;have Gc:=bn cU hb.size;have HB:=aa hb;clear aL hb HX;rcases HR.out with⟨rfl,rfl⟩|⟨V,rfl,hn,hV,rfl⟩|⟨V,rfl,hn,hV,hV2,rfl⟩|⟨V,rfl,hn,hV,rfl⟩
  all_goals clear HR HD
  all_goals simp only[jL,Option.isSome]
  ·have ZL:=aa mD;clear mD;go_wp2_with fail;go_ret2;exact vY ZL.out (eB HB.out _)
  ·first
   |(exfalso;omega)
   |skip
    go_wp2_with (at_builtin;refine fr rfl (.tmp 67) (.tmp 70) 147 rfl base 5 (.int .u8 0) 1 1 iT underlying147 rfl (by omega) v k _ rfl mD 1 _ rfl rfl (yI [_]) (by unfold maxLen;omega) (by omega) Gc ?_);intro v' w2 ho hg;have HO:=aa ho;have HG:=aa hg;clear ho hg mD;go_wp2_with fail;go_ret2;exact vZ (us:=[(V:Int)]) 1 rfl rfl HO.out (dh (eB HB.out _) HG.out) (by simp;omega)
  all_goals first
   |(exfalso;omega)
   |skip
    have ZL:=aa mD;have HR:=aa hV;clear mD;go_wp2_with fail;refine(Mx V _).mono ?_;rintro e w' ⟨rfl,rfl⟩;rw[hV];clear hV;go_wp2_with fail
    first
    |go_ret2
     exact vY ZL.out (eB HB.out _)
    |refine(UB V _ (uA HR.out) v base k bs ZL.out Gc hk).mono ?_
     rintro e w2 ⟨v',rfl,ho,hg⟩;have HO:=aa ho;have HG:=aa hg;clear ho hg;go_wp2_with fail;go_ret2;exact⟨v',by subst hN;rfl,HO.out,dh (eB HB.out _) HG.out⟩
theorem My (H:IW s w v base k bs) (h0:0<s.size) (hq:s[0]≠q) (hn: ∀t∈Iv,(s[0].toNat:Int)≠t) {D:Option Nat} (hd:fP s.data.toList 3 8=D) {r:List UInt8×Nat}
  (hr:D=none∧r=([],0)∨(∃V:Nat,D=some V∧255<(V:Int)∧r=([],0))∨ ∃V:Nat,D=some V∧(V:Int)≤255∧r=([UInt8.ofNat V],3)):FZ s q w v base k bs r:=by
 obtain⟨hs,aL,cU,hk⟩:=H;unfold FZ;obtain⟨e1,e2⟩:=oT h0;have tq:=ψ hq;have HD:=aa hd;have T:=χ hn;simp only[Iu,Iv,gq,yB,kE,EA,EB,jw,Int.reduceBEq]at T;obtain⟨_,_,_,_,_,_,_,_,_,_,_⟩:=T;clear hq hd hn;have HR:=aa hr;clear hr;go_enter func161,ntmps161;go_wp2_with fail;refine(B9 s _ 3 (by omega) _ 8 (by omega) _ hs (by omega) (.inl rfl)).mono ?_;rintro e w1 ⟨rfl,hb⟩;rw[HD.out];have mD:=o3 aL hb;have Gc:=bn cU hb.size;have HB:=aa hb;clear aL hb;rcases HR.out with⟨rfl,rfl⟩|⟨V,rfl,hV,rfl⟩|⟨V,rfl,hV,rfl⟩
 all_goals clear HR HD
 all_goals simp only[jL,Option.isSome]
 rotate_right
 ·go_wp2_with (at_builtin;refine fr rfl (.tmp 32) (.tmp 35) 147 rfl base 5 (.int .u8 0) 1 1 iT underlying147 rfl (by omega) v k _ rfl mD 1 _ rfl rfl (yI [_]) (by unfold maxLen;omega) (by omega) Gc ?_);intro v' w2 ho hg;have HO:=aa ho;have HG:=aa hg;clear ho hg mD;go_wp2_with fail;go_ret2;exact vZ (us:=[(V:Int)]) 1 rfl rfl HO.out (dh (eB HB.out _) HG.out) (by simp;omega)
 all_goals
  have ZL:=aa mD;clear mD;go_wp2_with fail;go_ret2;exact vY ZL.out (eB HB.out _)
theorem Cb {base:Nat} (hb:base≤16): ∀{l:List UInt8} {v r:Nat},fi base v l=some r→v≤134217727→r≤134217727
 |[],v,r,h,hv=>by simp[fi]at h;omega
 |c::l,v,r,h,hv=>by
  simp only[fi]at h;cases hd:eY c with
  |none=>rw[hd]at h;simp at h
  |some d=>
   rw[hd]at h;simp only at h;split at h
   ·rename_i hx;have:v*base≤8388607*16:=oH hx.2 hb;exact Cb hb h (by omega)
   ·simp at h
theorem UC (h:fP l n base=some V) (hb:base≤16):(V:Int)≤134217727:=by
 unfold fP at h;split at h
 ·simp at h
 ·have:=Cb hb h (by omega);omega
theorem Cc (s:ByteArray) (q:UInt8) (w:World) (hs:s.size≤281474976710656) (v:Value) (base k:Nat) (bs:List UInt8) (aL:w.ownsRow base 5 1 v k (cellsOf bs)) (cU:base≤w.heap.size) (hk:k≤281474976710):
  Calls prog 161 #[v,.string s,.int .u8 (q.toNat:Int)] w (vQ w v base k bs (ri q s.data.toList)):=by
 cases hl:s.data.toList with
 |nil=>
  have:s=⟨#[]⟩:=by rw[←mk_data s,hl]
  subst this;exact CP q w v base k bs aL cU hk
 |cons c r=>
  have h0:0<s.size:=by rw[←ab,hl];simp
  have hc:=head_eq hl h0;have ht:=Ys hl;have H:IW s w v base k bs:=⟨hs,aL,cU,hk⟩;have hi: ∀n:Nat,n<256→c≠UInt8.ofNat n→(s[0].toNat:Int)≠(n:Int):=fun n hn h e=>h (by rw[←hc];exact cD hn (Int.ofNat.inj e))
  by_cases hp:ew c=true
  ·rw[Qn hp,←hc];refine GO H h0 ?_;rw[hc];have e:c=97∨c=98∨c=116∨c=110∨c=118∨c=102∨c=114:=by simpa [ew,or_assoc]using hp
   rcases e with e|e|e|e|e|e|e<;>(rw[e];decide)
  ·have hp':ew c=false:=by simpa using hp
   have np:c≠97∧c≠98∧c≠116∧c≠110∧c≠118∧c≠102∧c≠114:=by simpa [ew,and_assoc]using hp'
   obtain⟨n1,n2,n3,n4,n5,n6,n7⟩:=np;by_cases h92:c=92
   ·rw[I9 hp' (.inl h92),←hc];exact yU H h0 (.inl (by rw[hc,h92];rfl))
   ·by_cases hq:c=q
    ·rw[I9 hp' (.inr hq),←hc];refine yU H h0 (.inr ⟨?_,by rw[hc,hq]⟩);simp only[Iu,gq,yB,kE,EA,EB,jw];exact⟨hi 97 (by decide) n1,hi 98 (by decide) n2,hi 116 (by decide) n3,hi 110 (by decide) n4,hi 118 (by decide) n5,hi 102 (by decide) n6,hi 114 (by decide) n7,hi 92 (by decide) h92⟩
    ·have hq':s[0]≠q:=by rw[hc];exact hq
     by_cases XY:c=120
     ·rw[agh XY hq,←ht];refine Ca H h0 hq' (.inl ⟨by rw[hc,XY];rfl,rfl⟩) rfl ?_;cases hd:fP (s.extract 1 s.size).data.toList 2 16 with
      |none=>exact .inl ⟨rfl,rfl⟩
      |some V=>exact .inr (.inl ⟨V,rfl,rfl,by rw[B8]at hd;exact sw (by omega) hd,rfl⟩)
     ·have hx: ∀N,N=4∧c=117∨N=8∧c=85→FZ s q w v base k bs (match fP r N 16 with|some v=>if ba v then(fO v,N+1)else([],0)|none=>([],0)):=by
       intro N hN;have hv:(s[0].toNat:Int)=117∧N=4∨(s[0].toNat:Int)=85∧N=8:=hN.imp (fun h=>⟨by rw[hc,h.2];rfl,h.1⟩) fun h=>⟨by rw[hc,h.2];rfl,h.1⟩
       refine Ca H h0 hq' (.inr hv) rfl ?_;rw[ht];cases hd:fP r N 16 with
       |none=>exact .inl ⟨rfl,rfl⟩
       |some V=>
        cases hr:ba V
        ·exact .inr (.inr (.inl ⟨V,rfl,by omega,hr,UC hd (by omega),by simp[hr]⟩))
        ·exact .inr (.inr (.inr ⟨V,rfl,by omega,hr,by simp[hr]⟩))
      by_cases XZ:c=117
      ·rw[agi XZ hq];exact hx 4 (.inl ⟨rfl,XZ⟩)
      ·by_cases h85:c=85
       ·rw[agj h85 hq];exact hx 8 (.inr ⟨rfl,h85⟩)
       ·rw[Yq hp' h92 hq XY XZ h85,←hl];refine My H h0 hq' ?_ rfl ?_
        ·simp only[Iv,gq,yB,kE,EA,EB,jw];exact⟨hi 97 (by decide) n1,hi 98 (by decide) n2,hi 116 (by decide) n3,hi 110 (by decide) n4,hi 118 (by decide) n5,hi 102 (by decide) n6,hi 114 (by decide) n7,hi 92 (by decide) h92,hi 120 (by decide) XY,hi 117 (by decide) XZ,hi 85 (by decide) h85⟩
        ·cases hd:fP s.data.toList 3 8 with
         |none=>exact .inl ⟨rfl,rfl⟩
         |some V=>
          by_cases hV:V≤255
          ·exact .inr (.inr ⟨V,rfl,by omega,by simp[hV]⟩)
          ·exact .inr (.inl ⟨V,rfl,by omega,by simp[hV]⟩)
