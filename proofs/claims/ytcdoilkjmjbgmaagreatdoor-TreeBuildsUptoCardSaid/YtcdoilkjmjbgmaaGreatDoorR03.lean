import Derived.Test.YtcdoilkjmjbgmaaGreatDoorR02
import Derived.Deep.QuietTactic
import Derived.BigQuiet
/- Part of the proof of YtcdoilkjmjbgmaaGreatDoorCardR: PlD SpanA SpanB SpanC UtfE RzA RcA RaA. -/
set_option maxRecDepth 100000
set_option maxHeartbeats 4000000
set_option linter.unusedVariables false
set_option linter.unusedSimpArgs false
namespace Go.Proofs.YtcdoilkjmjbgmaaGreatDoor
open Go.RowKit
open Tryz
variable {c q:UInt8} {k i f fin next sum at' u behind j n w a base F r x:Nat} {l b I bs:List UInt8} {s:ByteArray} {w':World} {P:Program} {v:Value} {e:TypeId}
def xG:Nat→UInt8
 |0=>121|1=>119|2=>100|3=>104|4=>109|_=>115
def dm:Nat→Nat
 |0=>31536000000|1=>604800000|2=>86400000|3=>3600000|4=>60000|5=>1000|_=>1
def WY (c:UInt8):Nat:=if c=121 then 0 else if c=119 then 1 else if c=100 then 2 else if c=104 then 3 else if c=109 then 4 else if c=115 then 5 else 7
def aO (l:List UInt8) (i:Nat):Nat×Nat:=
 if l.length≤i then(7,i)
 else if aq l i=109∧i+1<l.length∧aq l (i+1)=115 then(6,i+2)
 else if WY (aq l i)=7 then(7,i)else(WY (aq l i),i+1)
def iU (n:Nat) (c:UInt8):Nat:=min (n*10+(c.toNat-48)) 315360000000001
def qA (n:Nat) (l:List UInt8):Nat:=l.foldl iU n
def sat (l:List UInt8):Nat:=qA 0 l
def jF (n u sum:Nat):Nat:=if 315360000000000/dm u<n then 315360000000001 else min (sum+n*dm u) 315360000000001
def En:Nat→List UInt8→Nat→Nat→Nat→Nat×Nat
 |0,_,fin,_,sum=>(fin,sum)
 |f+1,l,fin,next,sum=>
  if ae digit l fin=fin∨(aO l (ae digit l fin)).1<next∨(aO l (ae digit l fin)).1=7 then(fin,sum)
  else En f l (aO l (ae digit l fin)).2 ((aO l (ae digit l fin)).1+1) (jF (sat ((l.drop fin).take (ae digit l fin-fin))) (aO l (ae digit l fin)).1 sum)
def measure (l:List UInt8):Nat×Nat:=En 8 l 0 0 0
def aY (l:List UInt8):Nat:=(measure l).1
def bG (l:List UInt8):Nat×Nat:=
 if 64<l.length then(0,1)
 else if (measure l).1=0∨(measure l).1<l.length then(0,30)
 else if 315360000000000<(measure l).2 then(0,31)else((measure l).2,0)
theorem qc (n:Nat) (c:UInt8) (r:List UInt8):qA n (c::r)=qA (iU n c) r:=by
 unfold qA;exact List.foldl_cons ..
theorem uO (n:Nat) (c:UInt8):iU n c≤315360000000001:=by unfold iU;exact Nat.min_le_right _ _
theorem Ju: ∀(l:List UInt8) (n:Nat),n≤315360000000001→qA n l≤315360000000001
 |[],n,h=>h
 |c::r,n,_=>by
  have h:=qc n c r;rw[h];exact Ju r _ (uO n c)
theorem abw (l:List UInt8):sat l≤315360000000001:=by
 rw[sat];exact Ju l 0 (dQ _)
theorem abx (c:UInt8):WY c≤5∨WY c=7:=by
 unfold WY
 repeat' split
 all_goals omega
theorem j7 (l:List UInt8) (i:Nat):i≤(aO l i).2∧(i≤l.length→(aO l i).2≤l.length)∧((aO l i).1≤6∨(aO l i).1=7):=by
 unfold aO;split
 ·exact⟨aS _,fun h=>h,.inr rfl⟩
 ·split
  ·rename_i h;exact⟨by simp,fun _=>by simp;omega,.inl (by simp)⟩
  ·split
   ·exact⟨aS _,fun h=>h,.inr rfl⟩
   ·rename_i h;have:=abx (aq l i);exact⟨by simp,fun _=>by simp;omega,.inl (by simp;omega)⟩
theorem TU: ∀(f:Nat) (l:List UInt8) (fin next sum:Nat),fin≤l.length→(En f l fin next sum).1≤l.length
 |0,_,_,_,_,h=>h
 |f+1,l,fin,next,sum,h=>by
  rw[En];split
  ·exact h
  ·exact TU f l _ _ _ ((j7 l _).2.1 (bL digit l fin h))
theorem kI (l:List UInt8):aY l≤l.length:=TU 8 l 0 0 0 (dQ _)
theorem X7 (hk:k<6) (h:xG k=c):WY c=k:=by
 subst h
 match k,hk with
 |0,_=>rfl|1,_=>rfl|2,_=>rfl|3,_=>rfl|4,_=>rfl|5,_=>rfl
theorem Uw (h: ∀k,k<6→xG k≠c):WY c=7:=by
 have h0:=h 0 (by omega);have h1:=h 1 (by omega);have h2:=h 2 (by omega);have h3:=h 3 (by omega);have h4:=h 4 (by omega);have h5:=h 5 (by omega);simp only[xG]at*
 unfold WY;rw[af (Ne.symm h0),af (Ne.symm h1),af (Ne.symm h2),af (Ne.symm h3),af (Ne.symm h4),af (Ne.symm h5)]
theorem E5 (u:Nat):1≤dm u∧dm u≤31536000000:=by
 unfold dm;split<;>omega
theorem MN (c:UInt8) (w:World):
  Calls prog 191 #[.int .u8 (c.toNat:Int)] w fun e w'=>e= .returned (.bool (digit c))∧w=w':=by
 go_enter func191,ntmps191;go_wp2
 all_goals (go_ret;exact⟨ah (by rw[eH];simp[digit];omega),rfl⟩)
theorem Ux (s:ByteArray) (x:Int) (i:Nat) (hx:x=(i:Int)) (w:World) (hs:s.size≤281474976710656) (hi:i≤281474976710656):
  Calls prog 179 #[.string s,.int .i64 x] w fun e w'=>e= .returned (.int .i64 (ae digit s.data.toList i:Nat))∧w=w':=by
 subst hx;go_enter func179,ntmps179;go_wp2_with fail;go_loop [1] (fun t=> ∃k:Nat,k≤562949953421312∧t= .int .i64 k∧Hid (ae digit s.data.toList k=ae digit s.data.toList i)) (fun t=>s.size-(intOf t).toNat)
 case atStart=>exact⟨i,by omega,rfl,rfl⟩
 case round=>
  obtain⟨k,hk,rfl,gV⟩:=hrel;by_cases ax:k<s.size
  ·cases hd:digit s[k]
   all_goals
    go_wp2_with (go_at_call 191;refine(MN _ _).mono ?_;rintro e w' ⟨rfl,rfl⟩)
   ·go_ret;exact⟨aH (by rw[←gV.out,gI ax hd]),rfl⟩
   ·go_round
    case rel=>exact⟨k+1,by omega,by go_num,(gH ax hd).trans gV⟩
    case measure=>simp[intOf];omega
  ·go_wp2_with fail;go_ret;exact⟨aH (by rw[←gV.out,bR (by simpa using ax)]),rfl⟩
theorem QD (x : Int) (k : Nat) (hx : x = (k : Int)) (hk : k < 6) (w : World) :
    Calls prog 192 #[.int .i64 x] w fun e w'=>e= .returned (.string ⟨#[xG k]⟩)∧w=w':=by
  subst hx
  match k,hk with
  | 0, _ | 1, _ | 2, _ | 3, _ | 4, _ | 5, _ =>
    go_enter func192,ntmps192
    go_wp2_with fail
    go_ret
    exact⟨rfl,rfl⟩
theorem oS (x : Int) (u : Nat) (hx : x = (u : Int)) (hu : u ≤ 6) (w : World) :
    Calls prog 182 #[.int .i64 x] w fun e w'=>e= .returned (.int .i64 (dm u:Nat))∧w=w':=by
  subst hx
  match u,hu with
  | 0, _ | 1, _ | 2, _ | 3, _ | 4, _ | 5, _ | 6, _ =>
    go_enter func182,ntmps182
    go_wp2_with fail
    go_ret
    exact⟨rfl,rfl⟩
theorem Di (s:ByteArray) (w:World) (hs:s.size≤281474976710656) (hd: ∀k (h:k<s.size),48≤s[k].toNat∧s[k].toNat≤57):
  Calls prog 181 #[.string s] w fun e w'=>e= .returned (.int .i64 (sat s.data.toList:Nat))∧w=w':=by
 have HD:=aa hd;clear hd;go_enter func181,ntmps181;go_wp2_with fail;go_loop [3,4] (fun v i=> ∃k n:Nat,k≤s.size∧i= .int .i64 k∧v= .int .i64 n∧(n:Int)≤315360000000001∧Hid (qA n (s.data.toList.drop k)=sat s.data.toList)) (fun _ i=>s.size-(intOf i).toNat)
 case atStart=>exact⟨0,0,dQ _,by go_num,by go_num,by omega,aa (by rw[Bj,sat])⟩
 case round=>
  obtain⟨k,n,hk,rfl,rfl,hn,gV⟩:=hrel;by_cases ax:k<s.size
  ·have dz:qA (iU n s[k]) (s.data.toList.drop (k+1))=sat s.data.toList:=by
    have h1:=drop_at (l:=s.data.toList) (i:=k) (by rw[ab];exact ax);rw[ar ax]at h1;exact(qc _ _ _).symm.trans ((cz (qA n) h1).symm.trans gV)
   rw[iU]at dz;obtain⟨h1,h2⟩:=HD k ax;clear gV;by_cases hb:(315360000000001:Int)<(n:Int)*10+((s[k].toNat:Int)-48)
   ·rw[qw (by omega)]at dz;have HS:=aa dz;have hB:((315360000000001:Int)<(n:Int)*10+((s[k].toNat:Int)-48))=True:=by simp[hb]
    clear dz hb;go_wp2_with fail;go_round
    case rel=>exact⟨k+1,315360000000001,by omega,by go_num,by go_num,by omega,HS⟩
    case measure=>simp[intOf];omega
   ·rw[mW (by omega)]at dz;have HS:=aa dz;have hB:((315360000000001:Int)<(n:Int)*10+((s[k].toNat:Int)-48))=False:=by simp[hb]
    clear dz;go_wp2_with fail;go_round
    case rel=>exact⟨k+1,n*10+(s[k].toNat-48),by omega,by go_num,by go_num,by omega,HS⟩
    case measure=>simp[intOf];omega
  ·have dz:sat s.data.toList=n:=by rw[←gV.out,uD (by rw[ab];omega)];rfl
   have HS:=aa dz;clear dz gV;go_wp2_with fail;go_ret;exact⟨aH (by rw[HS.out]),rfl⟩
def Two (w:World) (r:Nat×Nat) (e:Ending) (w':World):Prop:=e= .returned (.tuple #[.int .i64 (r.1:Nat),.int .i64 (r.2:Nat)])∧Below w.heap.size w w'
theorem Ct (h:l.length≤i):aO l i=(7,i):=by rw[aO,au h]
theorem E6 (h:i+1<l.length) (h1:aq l i=109) (h2:aq l (i+1)=115):aO l i=(6,i+2):=by
 rw[aO,af (by omega),au ⟨h1,h,h2⟩]
theorem ij (h:i<l.length) (hn: ¬(aq l i=109∧i+1<l.length∧aq l (i+1)=115)) (hk:k<6) (hh:xG k=aq l i):aO l i=(k,i+1):=by
 rw[aO,af (by omega),af hn,X7 hk hh,af (by omega)]
theorem zk (h:i<l.length) (hn: ¬(aq l i=109∧i+1<l.length∧aq l (i+1)=115)) (hh: ∀k,k<6→xG k≠aq l i):aO l i=(7,i):=by
 rw[aO,af (by omega),af hn,Uw hh,au rfl]
theorem kp (s:ByteArray) (x:Int) (i:Nat) (hx:x=(i:Int)) (w:World) (hs:s.size≤281474976710656) (hi:i<s.size) (hn: ¬(aq s.data.toList i=109∧i+1<s.data.toList.length∧aq s.data.toList (i+1)=115))
  (hb:(((s[i].toNat:Int)==109)=false)∨(((s[i].toNat:Int)==109)=true∧((i:Int)+1<s.size)=False)∨(∃h:i+1<s.size,((s[i].toNat:Int)==109)=true∧((s[i+1].toNat:Int)==115)=false)):
  Calls prog 180 #[.string s,.int .i64 x] w (Two w (aO s.data.toList i)):=by
 subst hx;have HN:=aa hn;clear hn;go_enter func180,ntmps180;have xv:((i:Int)<(s.size:Int))=True:=by simp;omega
 rcases hb with hb|⟨hb,aN⟩|⟨h,hb,aN⟩
 all_goals
  go_wp2_with fail;go_loopw [6] (fun t wr=> ∃k:Nat,k≤6∧t= .int .i64 k∧Below w.heap.size w wr∧Hid (∀j,j<k→xG j≠s[i])) (fun t _=>6-(intOf t).toNat)
  case atStart=>exact⟨0,by omega,rfl,aV _ _,fun j hj=>absurd hj (by omega)⟩
  case round=>
   obtain⟨k,hk,rfl,bQ,fM⟩:=hrel;by_cases ax:k<6
   ·go_wp2_with fail;go_quiet ((go_at_call 192;exact Calls.quiet_of_same ((QD _ k rfl ax _).mono fun _ _ ⟨h1,h2⟩=>⟨h1,h2.symm⟩)));have oC:=cr bQ nq;clear bQ;generalize wr.drewN nq=w2 at oC ⊢
    have HM:=aa fM;clear fM;have Og:(⟨#[xG k]⟩:ByteArray)[0]'(by simp[ByteArray.size])=xG k:=rfl;cases hq:((((⟨#[xG k]⟩:ByteArray)[0]'(by simp[ByteArray.size])).toNat:Int)==(s[i].toNat:Int))
    ·have qt: ∀j,j<k+1→xG j≠s[i]:=by
      intro j hj;by_cases hjk:j<k
      ·exact HM j hjk
      ·have:j=k:=by omega
       subst this;intro he;rw[Og,he]at hq;simp at hq
     have Wl:=aa qt;clear qt;go_wp2_with fail;go_roundw
     case rel=>exact⟨k+1,by omega,by go_num,oC,Wl⟩
     case measure=>simp[intOf];omega
    ·have hu:xG k=s[i]:=by
      rw[Og]at hq;have h1:((xG k).toNat:Int)=(s[i].toNat:Int):=by simpa using hq
      exact Bh.1 (by omega)
     have hE:=ij (l:=s.data.toList) (by rw[ab];exact hi) HN ax (by rw[ar hi];exact hu);have HE:=aa hE;clear hE hu;go_wp2_with fail;go_ret2;exact⟨by rw[HE.out];rfl,oC⟩
   ·obtain rfl:k=6:=by omega
    have HE:=aa (zk (l:=s.data.toList) (by rw[ab];exact hi) HN (by rw[ar hi];intro j hj;exact fM j (by omega)));clear fM;go_wp2_with fail;go_ret2;exact⟨by rw[HE.out];rfl,bQ⟩
theorem Kr (s:ByteArray) (x:Int) (i:Nat) (hx:x=(i:Int)) (w:World) (hs:s.size≤281474976710656) (hi:i≤281474976710656):
  Calls prog 180 #[.string s,.int .i64 x] w (Two w (aO s.data.toList i)):=by
 by_cases ho:s.size≤i
 ·have hE:=Ct (l:=s.data.toList) (i:=i) (by rw[ab];exact ho);have HE:=aa hE;clear hE;subst hx;go_enter func180,ntmps180;go_wp2_with fail;go_ret2;exact⟨by rw[HE.out];rfl,aV _ _⟩
 ·have ax:i<s.size:=by omega
  cases h1:((s[i].toNat:Int)==109)
  ·exact kp s x i hx w hs ax (by rw[ar ax];rintro⟨h,_⟩;rw[h]at h1;simp at h1) (.inl h1)
  ·by_cases h2:i+1<s.size
   ·cases h3:((s[i+1].toNat:Int)==115)
    ·exact kp s x i hx w hs ax (by rw[ar h2];rintro⟨_,_,h⟩;rw[h]at h3;simp at h3) (.inr (.inr ⟨h2,h1,h3⟩))
    ·have e1:aq s.data.toList i=109:=by rw[ar ax];exact ox (n:=109) (by omega) rfl h1
     have e2:aq s.data.toList (i+1)=115:=by rw[ar h2];exact ox (n:=115) (by omega) rfl h3
     have HE:=aa (E6 (l:=s.data.toList) (i:=i) (by rw[ab];exact h2) e1 e2);clear e1 e2;subst hx;go_enter func180,ntmps180;have xv:((i:Int)<(s.size:Int))=True:=by simp;omega
     have PH:((i:Int)+1<(s.size:Int))=True:=by simp;omega
     go_wp2_with fail;go_ret2;exact⟨by rw[HE.out];rfl,aV _ _⟩
   ·exact kp s x i hx w hs ax (by rw[ab];omega) (.inr (.inl ⟨h1,by simp;omega⟩))
theorem jH (h:ae digit l fin=fin∨(aO l (ae digit l fin)).1<next∨(aO l (ae digit l fin)).1=7):En (f+1) l fin next sum=(fin,sum):=by
 rw[En,au h]
theorem Mi (h1:ae digit l fin=at') (h2:aO l at'=(u,behind)) (h3:at'≠fin) (h4:next≤u) (h5:u≠7):En (f+1) l fin next sum=En f l behind (u+1) (jF (sat ((l.drop fin).take (at'-fin))) u sum):=by
 rw[En,h1,h2,af (by omega)]
theorem G1 (p:UInt8→Bool) (l:List UInt8) (i:Nat):(l.drop i).take (ae p l i-i)=(l.drop i).takeWhile p:=by
 rw[ae,show i+((l.drop i).takeWhile p).length-i=((l.drop i).takeWhile p).length by omega];exact(List.prefix_iff_eq_take.1 (List.takeWhile_prefix p)).symm
theorem MO (h:digit c=true):48≤c.toNat∧c.toNat≤57:=by
 simp[digit]at h;omega
theorem zl (hj:ae digit s.data.toList i=j): ∀k (h:k<(s.extract i j).size),48≤(s.extract i j)[k].toNat∧(s.extract i j)[k].toNat≤57:=by
 intro k h;have hl:(s.extract i j).data.toList=(s.data.toList.drop i).takeWhile digit:=by
  rw[Lib.extract_data,←hj,G1]
 have hk:k<(s.extract i j).data.toList.length:=by rw[ab];exact h
 have hm:(s.extract i j)[k]∈(s.data.toList.drop i).takeWhile digit:=by
  rw[←hl,←gl _ k hk];exact jz _
 exact MO (rq.1 List.all_takeWhile _ hm)
theorem zm (h:315360000000000/dm u<n):jF n u sum=315360000000001:=by
 unfold jF;rw[au h]
theorem zn (h:n≤315360000000000/dm u):jF n u sum=min (sum+n*dm u) 315360000000001:=by
 unfold jF;rw[af (by omega)]
theorem Jv (h:n≤315360000000000/dm u):n*dm u≤315360000000000:=
 bP (fi _ h) (IZ _ _)
theorem nz {w:World} {r:Nat×Nat} {b:Nat} (h:r=(a,b)) (hb:Below w.heap.size w w'):Two w r (.returned (.tuple #[.int .i64 (a:Int),.int .i64 (b:Int)])) w':=by
 subst h;exact⟨rfl,hb⟩
theorem xd (s:ByteArray) (w:World) (hs:s.size≤281474976710656):Calls prog 167 #[.string s] w (Two w (measure s.data.toList)):=by
 go_enter func167,ntmps167;go_wp2_with fail;go_loopw [4,5,6] (fun v t x wr=> ∃f fin next sum:Nat,fin≤s.size∧next≤7∧8≤f+next∧(sum:Int)≤315360000000001∧v= .int .i64 fin∧t= .int .i64 sum∧x= .int .i64 next∧Below w.heap.size w wr∧Hid (En f s.data.toList fin next sum=measure s.data.toList)) (fun _ _ x _=>7-(intOf x).toNat)
 case atStart=>exact⟨8,0,0,0,dQ _,by omega,by omega,by omega,by go_num,by go_num,by go_num,aV _ _,aa rfl⟩
 case round=>
  obtain⟨f,fin,next,sum,mA,ZZ,hf,aqT,rfl,rfl,rfl,bQ,hM⟩:=hrel;obtain⟨f,rfl⟩: ∃g,f=g+1:=⟨f-1,by omega⟩;go_wp2_with fail;refine(Ux s _ fin rfl _ hs (by omega)).mono ?_;rintro e w1 ⟨rfl,rfl⟩;have rl:=aX digit s.data.toList fin;have pG:=bL digit s.data.toList fin (by rw[ab];exact mA);rw[ab]at pG;obtain⟨at',cL⟩: ∃k,k=ae digit s.data.toList fin:=⟨_,rfl⟩;rw[←cL]at rl pG ⊢
  have HA:=aa cL;clear cL;go_wp2_with fail;refine(Kr s _ at' rfl _ hs (by omega)).mono ?_;rintro e w2 ⟨rfl,aN⟩;have oC:=bQ.trans (aN.mono bQ.size);clear aN bQ;have hU:=j7 s.data.toList at';rw[ab]at hU;obtain⟨u,behind,hu⟩: ∃u b,(u,b)=aO s.data.toList at':=⟨_,_,rfl⟩;rw[←hu]at hU ⊢
  obtain⟨Φ,Sz,Zm⟩:=hU;have HU:=aa hu;clear hu;simp only at Φ Sz Zm ⊢
  cases hq:((at':Int)==(fin:Int))
  ·cases ax:decide (u<next)
   ·cases h7:((u:Int)==7)
    ·go_wp2_with fail;have hf1:at'≠fin:=by have:=kJ hq;omega
     have AR:next≤u:=by have:=tw ax;omega
     have hu7:u≠7:=by have:=kJ h7;omega
     have hg:=(Mi (f:=f) (l:=s.data.toList) (fin:=fin) (next:=next) (sum:=sum) HA.symm HU.symm hf1 AR hu7).symm.trans hM;have oy:=zl (s:=s) (i:=fin) HA.symm;have Lu:(s.extract fin at').size≤281474976710656:=by simp;omega
     have qU:(s.extract fin at').data.toList=(s.data.toList.drop fin).take (at'-fin):=Lib.extract_data ..;refine(Di _ _ Lu oy).mono ?_;rintro e w3 ⟨rfl,rfl⟩;rw[qU];have hle:=abw ((s.data.toList.drop fin).take (at'-fin));obtain⟨n,hn⟩: ∃n,n=sat ((s.data.toList.drop fin).take (at'-fin)):=⟨_,rfl⟩;rw[←hn]at hle hg ⊢
     have aex:(n:Int)≤315360000000001:=by omega
     have HG:=aa hg;have LF:=Sz pG;have Ψ:u≤6:=by omega
     clear hn hle oy Lu qU hg hM Sz Zm HA HU;have hz:=E5 u;obtain⟨cK,ep⟩:=hz;have lB:((dm u:Int)==0)=false:=by rw[bN];omega
     have jU:(dm u:Int)≤31536000000:=by omega
     clear ep;have Wm:(315360000000000:Int)/(dm u:Int)=((315360000000000/dm u:Nat):Int):=by rw[Int.natCast_ediv];rfl
     cases iL:decide ((315360000000000:Int)/(dm u:Int)<(n:Int))
     ·have LG:n≤315360000000000/dm u:=by have:=tw iL;omega
      have hmul:=Jv (u:=u) LG;have Lv:=zn (u:=u) (sum:=sum) LG;clear LG Wm;have ZW:(n:Int)*(dm u:Int)≤315360000000000:=by rw[←yQ];omega
      have afy:0≤(n:Int)*(dm u:Int):=by rw[←yQ];omega
      have Z0:(n:Int)*(dm u:Int)=((n*dm u:Nat):Int):=by rw[←yQ]
      have HM:=aa Z0;clear Z0;go_wp2_with fail;refine(oS _ u rfl Ψ _).mono ?_;rintro e w3 ⟨rfl,rfl⟩;cases II:decide ((315360000000001:Int)<(sum:Int)+(n:Int)*(dm u:Int))
      ·have Jf:sum+n*dm u≤315360000000001:=by
        have:=tw II;rw[HM.out]at this;omega
       rw[Lv,mW Jf]at HG;clear Jf Lv;go_wp2_with fail;refine(oS _ u rfl Ψ _).mono ?_;rintro e w3 ⟨rfl,rfl⟩;go_wp2_with fail;go_roundw
       case rel=>exact⟨f,behind,u+1,sum+n*dm u,LF,by omega,by omega,by have:=tw II;have:=HM.out;omega,by go_num,by rw[af (tw II),HM.out,←Int.natCast_add],by go_num,oC,HG⟩
       case measure=>simp[intOf];omega
      ·have Jf:315360000000001≤sum+n*dm u:=by
        have:=nT II;rw[HM.out]at this;omega
       rw[Lv,qw Jf]at HG;clear Jf Lv;go_wp2_with fail;refine(oS _ u rfl Ψ _).mono ?_;rintro e w3 ⟨rfl,rfl⟩;go_wp2_with fail;go_roundw
       case rel=>exact⟨f,behind,u+1,315360000000001,LF,by omega,by omega,by omega,by go_num,by rw[au (nT II)];rfl,by go_num,oC,HG⟩
       case measure=>simp[intOf];omega
     ·have Lv:=zm (u:=u) (n:=n) (sum:=sum) (by have:=nT iL;omega);rw[Lv]at HG;clear Lv Wm;go_wp2_with fail;refine(oS _ u rfl Ψ _).mono ?_;rintro e w3 ⟨rfl,rfl⟩;go_wp2_with fail;refine(oS _ u rfl Ψ _).mono ?_;rintro e w3 ⟨rfl,rfl⟩;go_wp2_with fail;go_roundw
      case rel=>exact⟨f,behind,u+1,315360000000001,LF,by omega,by omega,by omega,by go_num,by go_num,by go_num,oC,HG⟩
      case measure=>simp[intOf];omega
    ·have hE:=(jH (f:=f) (l:=s.data.toList) (fin:=fin) (next:=next) (sum:=sum) (.inr (.inr (by rw[←HA.out,←HU.out];exact Int.ofNat.inj (jx h7))))).symm.trans hM;have HE:=aa hE;clear hE hM;go_wp2_with fail;go_ret2;exact nz HE.symm oC
   ·have hE:=(jH (f:=f) (l:=s.data.toList) (fin:=fin) (next:=next) (sum:=sum) (.inr (.inl (by rw[←HA.out,←HU.out];exact nT ax)))).symm.trans hM;have HE:=aa hE;clear hE hM;go_wp2_with fail;go_ret2;exact nz HE.symm oC
  ·have hE:=(jH (f:=f) (l:=s.data.toList) (fin:=fin) (next:=next) (sum:=sum) (.inl (by rw[←HA.out];exact Int.ofNat.inj (jx hq)))).symm.trans hM;have HE:=aa hE;clear hE hM;go_wp2_with fail;go_ret2;exact nz HE.symm oC
theorem Ks (s:ByteArray) (w:World) (hs:s.size≤281474976710656):Calls prog 158 #[.string s] w fun e w'=>e= .returned (.int .i64 (aY s.data.toList:Nat))∧Below w.heap.size w w':=by
 go_enter func158,ntmps158;go_wp2_with fail;refine(xd s _ hs).mono ?_;rintro e w1 ⟨rfl,hb⟩;go_wp2_with fail;go_ret;exact⟨rfl,hb⟩
theorem Cu (s:ByteArray) (w:World):Calls prog 159 #[.string s] w (Two w (bG s.data.toList)):=by
 by_cases hl:64<s.size
 ·have hE:bG s.data.toList=(0,1):=by rw[bG,au (by rw[ab];exact hl)]
  go_enter func159,ntmps159;go_wp2_with fail;go_ret2;exact nz hE (aV _ _)
 ·obtain⟨r,hr⟩: ∃r,r=measure s.data.toList:=⟨_,rfl⟩;obtain⟨fin,sum⟩:=r;have hE:bG s.data.toList=if fin=0∨fin<s.size then(0,30)else if 315360000000000<sum then(0,31)else(sum,0):=by
   rw[bG,af (by rw[ab];exact hl),←hr,ab]
  have HE:=aa hE;have HR:=aa hr;clear hE hr;go_enter func159,ntmps159;go_wp2_with fail;refine(xd s _ (by omega)).mono ?_;rintro e w1 ⟨rfl,hb⟩;rw[←HR.out];have HB:=aa hb;clear hb;simp only;cases h0:((fin:Int)==0)
  ·cases h1:decide (fin<s.size)
   ·cases h2:decide ((315360000000000:Int)<(sum:Int))
    ·have hR:bG s.data.toList=(sum,0):=by
      rw[HE.out,af (by have:=kJ h0;have:=tw h1;omega),af (by have:=tw h2;omega)]
     have DC:=aa hR;clear hR;go_wp2_with fail;go_ret2;exact nz DC HB
    ·have hR:bG s.data.toList=(0,31):=by
      rw[HE.out,af (by have:=kJ h0;have:=tw h1;omega),au (by have:=nT h2;omega)]
     have DC:=aa hR;clear hR;go_wp2_with fail;go_ret2;exact nz DC HB
   ·have hR:bG s.data.toList=(0,30):=by
     rw[HE.out,au (.inr (nT h1))]
    have DC:=aa hR;clear hR;go_wp2_with fail;go_ret2;exact nz DC HB
  ·have hR:bG s.data.toList=(0,30):=by
    rw[HE.out,au (.inl (by have:=jx h0;omega))]
   have DC:=aa hR;clear hR;go_wp2_with fail;go_ret2;exact nz DC HB
theorem wH (h:dJ q l=some (b,n)):1≤n∧n≤l.length∧b.length≤n:=by
 have XK: ∀{l:List UInt8} {n base r:Nat},fk l n base=some r→n≤l.length:=by
  intro l n base r h;unfold fk at h;split at h
  ·simp at h
  ·omega
 cases l with
 |nil=>simp[dJ]at h
 |cons c r=>
  simp only[dJ]at h;split at h
  ·simp only[Bf,vV]at h;obtain⟨rfl,rfl⟩:=h;simp
  ·split at h
   ·simp only[Bf,vV]at h;obtain⟨rfl,rfl⟩:=h;simp
   ·split at h
    ·obtain⟨V,hV,h2⟩:=xC.1 h;simp only[vV]at h2;obtain⟨rfl,rfl⟩:=h2;have:=XK hV;simp;omega
    ·split at h
     ·obtain⟨V,hV,h2⟩:=OA.1 h;split at h2
      ·simp only[Bf,vV]at h2;obtain⟨rfl,rfl⟩:=h2;have:=XK hV;have:=xX V;simp;omega
      ·simp at h2
     ·split at h
      ·obtain⟨V,hV,h2⟩:=OA.1 h;split at h2
       ·simp only[Bf,vV]at h2;obtain⟨rfl,rfl⟩:=h2;have:=XK hV;have:=xX V;simp;omega
       ·simp at h2
      ·obtain⟨V,hV,h2⟩:=OA.1 h;split at h2
       ·simp only[Bf,vV]at h2;obtain⟨rfl,rfl⟩:=h2;have:=XK hV;simp at*;omega
       ·simp at h2
theorem kg (q : UInt8) : ∀ (f g : Nat) (l : List UInt8), l.length ≤ f → l.length ≤ g → kW q f l = kW q g l
  | 0, 0, l, _, _ => rfl
  | 0, g + 1, l, h, _ => by
    have:l=[]:=Bc (by omega)
    subst this;rfl
  | f + 1, 0, l, _, h => by
    have:l=[]:=Bc (by omega)
    subst this;rfl
  | f + 1, g + 1, l, hf, hg => by
    cases l with
    | nil => rfl
    | cons c r =>
      simp only[kW]
      simp only[dZ]at hf hg
      split
      · rw [kg q f g r (by omega) (by omega)]
      · cases he : dJ q r with
        | none => rfl
        | some p =>
          obtain⟨b,n⟩:=p
          have:=wH he
          simp only
          rw[kg q f g (r.drop n) (by simp;omega) (by simp;omega)]
def oz (q:UInt8) (I:List UInt8) (k:Nat) (bs:List UInt8):Option (List UInt8):=(kW q I.length (I.drop k)).map (bs++ ·)
theorem Jw (h:I.length≤k):oz q I k bs=some bs:=by
 rw[oz,uD h];cases I.length<;>simp[kW]
theorem Cv (h:k<I.length) (hc:aq I k≠92):oz q I (k+1) (bs++[aq I k])=oz q I k bs:=by
 rw[oz,oz,drop_at h];obtain⟨f,hf⟩: ∃f,I.length=f+1:=⟨I.length-1,by omega⟩;rw[hf,kW,au hc,kg q (f+1) f (I.drop (k+1)) (by simp;omega) (by simp;omega)];cases kW q f (I.drop (k+1))<;>simp
theorem E7 (h:k<I.length) (hc:aq I k=92) (he:dJ q (I.drop (k+1))=none):oz q I k bs=none:=by
 rw[oz,drop_at h];obtain⟨f,hf⟩: ∃f,I.length=f+1:=⟨I.length-1,by omega⟩;rw[hf,kW,af (by simp[hc]),he];rfl
theorem Jy (h:k<I.length) (hc:aq I k=92) (he:dJ q (I.drop (k+1))=some (b,n)):oz q I (k+1+n) (bs++b)=oz q I k bs:=by
 have hn:=wH he;rw[oz,oz,drop_at h];obtain⟨f,hf⟩: ∃f,I.length=f+1:=⟨I.length-1,by omega⟩;rw[hf,kW,af (by simp[hc]),he];simp only;rw[yS,kg q (f+1) f (I.drop (k+1+n)) (by simp;omega) (by simp;omega)];cases kW q f (I.drop (k+1+n))<;>simp
theorem QE (h:dJ q l=none):rk q l=([],0):=by rw[rk,h];rfl
theorem QF (h:dJ q l=some (b,n)):rk q l=(b,n):=by rw[rk,h];rfl
def inside (l:List UInt8):List UInt8:=(l.drop 1).take (l.length-2)
theorem ya (s:ByteArray):(s.extract 1 (s.size-1)).data.toList=inside s.data.toList:=by
 rw[Lib.extract_data,inside,ab,show s.size-1-1=s.size-2 by omega]
theorem dX {w:World} (h:w.ownsRow base e 1 v k (cellsOf l)) (src dst:TypeId) (hs:P.underlying src=some (.slice e)) (he:P.underlying e=some (.int .u8)) (hd:P.underlying dst=some .string):
  (convert src dst v).run P w= .ok (.string ⟨l.toArray⟩) w:=by
 have hl:l.length=k:=by have:=h.1;simpa [cellsOf]using this
 rcases h.2 with⟨rfl,hk⟩|⟨g,cap,cur,rfl,_⟩
 ·have:l=[]:=Bc (by omega);subst this;exact run_convert_bytes_nil w src e hs he 0 0 dst hd
 ·exact oh (sw h) src dst e k cap hl.symm hs he hd
def kE (w:World) (r:Nat×List UInt8) (e:Ending) (w':World):Prop:=e= .returned (.tuple #[.string ⟨r.2.toArray⟩,.int .i64 (r.1:Int)])∧Below w.heap.size w w'
theorem Al (s:ByteArray) (w:World) (hs:s.size≤281474976710656) (hv:valid s.data.toList=false):
  Calls prog 150 #[.string s] w (kE w (4,[])):=by
 go_enter func150,ntmps150;go_wp2_with fail;refine(j6 s _ hs).mono ?_;rintro e w1 ⟨rfl,hb⟩;rw[hv];have HB:=aa hb;clear hb hv;go_wp2_with fail;go_ret2;exact⟨rfl,HB⟩
theorem yt (s:ByteArray) (w:World) (hs:s.size≤281474976710656) (hv:valid s.data.toList=true) (hl:bH s.data.toList 0≠some s.data.toList.length):
  Calls prog 150 #[.string s] w (kE w (10,[])):=by
 go_enter func150,ntmps150;go_wp2_with fail;refine(j6 s _ hs).mono ?_;rintro e w1 ⟨rfl,hb⟩;rw[hv];have HB:=aa hb;have HL:=aa hl;clear hb hv hl;go_wp2_with fail;refine(nI s 0 _ hs).mono ?_;rintro e w2 ⟨rfl,rfl⟩;have hl:=HL.out;clear HL;cases he:bH s.data.toList 0 with
 |none=>
  clear hl;simp only[jT,nY];go_wp2_with fail;go_ret2;exact⟨rfl,HB⟩
 |some n=>
  have hn:n≠s.size:=by rintro rfl;rw[he,ab]at hl;exact hl rfl
  have yC:((n:Int) != (s.size:Int))=true:=by rw[jA];omega
  clear hl hn;simp only[jT,nY];go_wp2_with fail;go_ret2;exact⟨rfl,HB⟩
def xQ (T:Option (List UInt8)):Nat×List UInt8:=match T with|none=>(11,[])|some b=>if valid b then(0,b)else(13,[])
theorem jb (h:bH l 0=some l.length):2≤l.length∧dD (aq l 0)=true:=by
 unfold bH at h;split at h
 ·rename_i hx;obtain⟨n,hn,xz⟩:=xC.1 h;have: ∀(q:UInt8) (l:List UInt8) (n:Nat),eK q l=some n→1≤n:=by
   intro q l n h;cases l with
   |nil=>simp[eK]at h
   |cons c r=>
    cases r with
    |nil=>simp only[eK]at h;split at h<;>simp at h;omega
    |cons d r=>
     simp only[eK]at h
     repeat' split at h
     all_goals first|(simp at h;done)|(simp at h;omega)|skip
  have:=this _ _ _ hn;exact⟨by omega,hx.2⟩
 ·simp at h
theorem Am (s:ByteArray) (w:World) (hs:s.size≤281474976710) (hv:valid s.data.toList=true) (hl:bH s.data.toList 0=some s.data.toList.length) (h0:0<s.size) (hq:s[0].toNat=96):
  Calls prog 150 #[.string s] w (kE w (0,inside s.data.toList)):=by
 have h2:=(jb hl).1;rw[ab]at hl h2;have hw:IntKind.i64.wrap ((s.size:Int)-1)=(s.size:Int)-1:=by rw[xE];omega
 have yC:((s.size:Int) != (s.size:Int))=false:=by simp
 go_enter func150,ntmps150;go_wp2_with fail;refine(j6 s _ (by omega)).mono ?_;rintro e w1 ⟨rfl,hb⟩;rw[hv];have HB:=aa hb;have HL:=aa hl;have HQ:=aa hq;clear hb hv hl hq;go_wp2_with fail;refine(nI s 0 _ (by omega)).mono ?_;rintro e w2 ⟨rfl,rfl⟩;rw[HL.out];simp only[jT,nY];go_wp2_with fail;go_quiet (fail);have aaQ:((s[0].toNat:Int)==96)=true:=by rw[HQ.out];rfl
 go_wp2_with fail;go_ret2;exact⟨by rw[←ya,mk_data];rfl,cr HB _⟩
theorem An (s:ByteArray) (w:World) (hs:s.size≤281474976710) (hv:valid s.data.toList=true) (hl:bH s.data.toList 0=some s.data.toList.length) (h0:0<s.size) (hq:s[0].toNat≠96) (T:Option (List UInt8)) (hT:oz s[0] (inside s.data.toList) 0 []=T):
  Calls prog 150 #[.string s] w (kE w (xQ T)):=by
 have h2:=(jb hl).1;rw[ab]at hl h2;have hw:IntKind.i64.wrap ((s.size:Int)-1)=(s.size:Int)-1:=by rw[xE];omega
 have yC:((s.size:Int) != (s.size:Int))=false:=by simp
 go_enter func150,ntmps150;go_wp2_with fail;refine(j6 s _ (by omega)).mono ?_;rintro e w1 ⟨rfl,hb⟩;rw[hv];have HL:=aa hl;have HQ:=aa hq;have HT:=aa hT;clear hv hl hq hT;go_wp2_with fail;refine(nI s 0 _ (by omega)).mono ?_;rintro e w2 ⟨rfl,rfl⟩;rw[HL.out];simp only[jT,nY];go_wp2_with fail;go_quiet (fail);have aaQ:((s[0].toNat:Int)==96)=false:=by rw[bN];have:=HQ.out;omega
 obtain⟨t,ht⟩: ∃t,t=s.extract 1 (s.size-1):=⟨_,rfl⟩;have qU:t.data.toList=inside s.data.toList:=by rw[ht,ya]
 have Lu:t.size≤281474976710:=by
  rw[←ab,qU,inside];have:=List.length_take_le (s.data.toList.length-2) (s.data.toList.drop 1);rw[ab]at this;rw[ab];omega
 rw[←ht];generalize hI:inside s.data.toList=I at HT qU;have HD:=aa qU;clear ht qU hI hw yC h2;rename_i nq;have aN:=cr hb nq;clear hb;generalize w1.drewN nq=w2 at aN ⊢
 obtain⟨i0,tE,lB,cK,ep⟩:=kR iT;go_wp2_with (at_make;refine wpList_make_own _ rfl (.const (.int .i64 0)) (.tmp 38) 147 rfl w.heap.size 5 i0 (.int .u8 0) 1 underlying147 tE lB cK _ _ _ t.size rfl rfl rfl (by rw[ep];omega) (by unfold maxLen;omega) aN.size ?_);intro w3 wb A5;have Z1:Below w.heap.size w w3:=aN.grown A5 aN.size (by simp);have pg:=aa wb;clear tE lB cK ep wb A5 aN;go_wp2_with fail;go_loopw [8,9] (fun v i wr=> ∃(k:Nat) (bs:List UInt8),k≤t.size∧bs.length≤k∧i= .int .i64 k∧wr.ownsRow w.heap.size 5 1 v bs.length (cellsOf bs)∧Below w.heap.size w wr∧Hid (oz s[0] I k bs=T)) (fun _ i _=>t.size-(intOf i).toNat)
 case atStart=>exact⟨0,[],dQ _,aS _,rfl,pg,Z1,HT⟩
 case round=>
  obtain⟨k,bs,hk,Ω,rfl,aL,bQ,hT⟩:=hrel;clear HT pg Z1;have hit:I.length=t.size:=by rw[←HD.out,ab]
  have HI:=aa hit;clear hit;by_cases ax:k<t.size
  ·have WZ:k<I.length:=by rw[HI.out];exact ax
   have cL:aq I k=t[k]:=by rw[←HD.out];exact ar ax
   cases hc:((t[k].toNat:Int) != 92)
   ·have qP:aq I k=92:=by rw[cL];exact ox (n:=92) (by omega) rfl (by simpa [bne]using hc)
    have oD:(t.extract (k+1) t.size).data.toList=I.drop (k+1):=by rw[gr,HD.out]
    have hex:(t.extract (k+1) t.size).size≤281474976710656:=by simp;omega
    have HX:=aa hex;have HA:=aa cL;cases he:dJ s[0] (I.drop (k+1))with
    |none=>
     have FR:=(E7 (bs:=bs) WZ qP he).symm.trans hT;have LH:=QE he;rw[←oD]at LH;have HE:=aa LH;have SA:=aa FR;clear qP oD he FR LH cL hex hT;go_wp2_with fail;refine(Cs (t.extract (k+1) t.size) s[0] _ HX _ w.heap.size bs.length bs aL bQ.size (by omega)).mono ?_;rintro e w4 ⟨v',rfl,ho,hg⟩;rw[HE.out]at ho ⊢
     have HB:=aa (bQ.grown hg bQ.size (fun g qZ=>(aL.lt g qZ).1));clear ho hg aL bQ;go_wp2_with fail;go_ret2;exact⟨by rw[←SA.out];rfl,HB⟩
    |some p=>
     obtain⟨b,n⟩:=p;have hn:=wH he;have FR:=(Jy (bs:=bs) WZ qP he).trans hT;have LH:=QF he;rw[←oD]at LH;rw[nV,HI.out]at hn;obtain⟨AR,xz,hn3⟩:=hn;have yC:((n:Int)==0)=false:=by rw[bN];omega
     have HE:=aa LH;have SA:=aa FR;clear qP oD he FR LH cL hex hT;go_wp2_with fail;refine(Cs (t.extract (k+1) t.size) s[0] _ HX _ w.heap.size bs.length bs aL bQ.size (by omega)).mono ?_;rintro e w4 ⟨v',rfl,ho,hg⟩;rw[HE.out]at ho ⊢
     have HB:=aa (bQ.grown hg bQ.size (fun g qZ=>(aL.lt g qZ).1));have HO:=aa ho;clear ho hg aL bQ;go_wp2_with fail;go_roundw
     case rel=>exact⟨k+1+n,bs++b,by omega,by rw[iJ];omega,by go_num,by rw[iJ];exact HO,HB,SA⟩
     case measure=>simp[intOf];omega
   ·have qP:aq I k≠92:=by rw[cL];exact pF (n:=92) (by omega) rfl (by simpa [bne]using hc)
    have FR:=(Cv (q:=s[0]) (bs:=bs) WZ qP).trans hT;rw[cL]at FR;have SA:=aa FR;clear qP cL FR hT;go_wp2_with (at_builtin;refine ir rfl (.tmp 50) (.tmp 54) 147 rfl w.heap.size 5 (.int .u8 0) 1 1 iT underlying147 rfl (by omega) _ bs.length _ rfl aL [.int .u8 (t[k].toNat:Int)] rfl rfl (zZ rfl) (by unfold maxLen;omega) (by omega) bQ.size ?_);intro v' w4 ho hg;have HB:=aa (bQ.grown hg bQ.size (fun g qZ=>(aL.lt g qZ).1));have HO:=aa ho;clear ho hg aL bQ;go_wp2_with fail;go_roundw
    case rel=>exact⟨k+1,bs++[t[k]],by omega,by simp;omega,by go_num,by rw[fX,iJ];exact HO,HB,SA⟩
    case measure=>simp[intOf];omega
  ·have SC:=(Jw (q:=s[0]) (bs:=bs) (k:=k) (by rw[HI.out];omega)).symm.trans hT;have HTe:=aa SC;have Jd:=dX (P:=prog) aL 147 9 underlying147 underlying5 underlying9;have iE:(⟨bs.toArray⟩:ByteArray).size≤281474976710656:=by simp[ByteArray.size];omega
   have HS:=aa iE;clear SC hT iE;go_wp2_with fail;refine(j6 ⟨bs.toArray⟩ _ HS).mono ?_;rintro e w4 ⟨rfl,fg⟩;have Jg:=oR aL fg;have aby:=dX (P:=prog) Jg 147 9 underlying147 underlying5 underlying9;have HB:=aa (bQ.trans (fg.mono bQ.size));clear aL Jg bQ fg Jd;rw[show ((⟨bs.toArray⟩:ByteArray).data.toList)=bs from by simp];cases Xa:valid bs
   ·have HV:=aa Xa;clear Xa;go_wp2_with fail;go_ret2;exact⟨by rw[←HTe.out,xQ];simp[HV.out],HB⟩
   ·have HV:=aa Xa;clear Xa;go_wp2_with fail;go_ret2;exact⟨by rw[←HTe.out,xQ];simp[HV.out],HB⟩
theorem uP (h:2≤l.length):(inside l).length=l.length-2:=by
 rw[inside,nU,nV];omega
theorem Kt (s:ByteArray) (w:World) (hs:s.size≤281474976710):
  Calls prog 150 #[.string s] w (kE w (lV s.data.toList)):=by
 unfold lV;cases hv:valid s.data.toList
 ·rw[au rfl];exact Al s w (by omega) hv
 ·rw[af (by simp)];by_cases hl:bH s.data.toList 0=some s.data.toList.length
  ·rw[af (by simpa using hl)];have h2:=(jb hl).1;have h0:0<s.size:=by rw[ab]at h2;omega
   have cL:=ar h0;rw[cL];by_cases hq:s[0]=96
   ·rw[au hq];exact Am s w hs hv hl h0 (by rw[hq];rfl)
   ·rw[af hq];have Ξ:s[0].toNat≠96:=fun e=>hq (cM (n:=96) (by omega) e)
    have hT:oz s[0] (inside s.data.toList) 0 []=kW s[0] s.data.toList.length (inside s.data.toList):=by
     rw[oz,Bj,kg s[0] (inside s.data.toList).length s.data.toList.length _ (aS _) (by rw[uP h2];omega)];cases kW s[0] s.data.toList.length (inside s.data.toList)<;>simp
    exact An s w hs hv hl h0 Ξ _ hT
  ·rw[au hl];exact yt s w (by omega) hv hl
theorem OW (h:r<F):F-(intOf (.int .i64 ((r:Int)+1))).toNat<F-(intOf (.int .i64 (r:Int))).toNat:=by
 have h1:(intOf (.int .i64 ((r:Int)+1))).toNat=r+1:=rfl;have h2:(intOf (.int .i64 (r:Int))).toNat=r:=rfl;rw[h1,h2];exact Nat.sub_lt_sub_left h (vU r)
theorem iu {fn:Func} {a b c:Tmp} (h:fn.results= #[.tmp a,.tmp b,.tmp c]) (tmps:Array Value) (P:Program) (w:World):
  (results fn tmps).run P w= .ok (.tuple #[tmps.getD a undef,tmps.getD b undef,tmps.getD c undef]) w:=by
 simp[results,h]
theorem Cw {P:UInt8→Prop} (h: ∀n:Fin 256,P (UInt8.ofNat n.val)) (c:UInt8):P c:=by
 have:=h ⟨c.toNat,c.toNat_lt⟩;simpa using this
theorem Jh {k:IntKind} {a b:Int} (h:a=b):Value.int k a=Value.int k b:=by rw[h]
theorem QG (c:UInt8) (w:World):
  Calls prog 136 #[.int .u8 (c.toNat:Int)] w fun e w'=>e= .returned (.bool (digit c))∧w=w':=by
 go_enter func136,ntmps136;go_wp2
 all_goals (go_ret;exact⟨ah (by rw[eH];simp[digit];omega),rfl⟩)
theorem OX (s:ByteArray) (i:Nat) (w:World) (hs:s.size≤281474976710656) (hi:i≤281474976710656):
  Calls prog 121 #[.string s,.int .i64 (i:Int)] w fun e w'=>e= .returned (.int .i64 (ae digit s.data.toList i:Nat))∧w=w':=by
 go_enter func121,ntmps121;go_wp2_with fail;go_loop [1] (fun t=> ∃k:Nat,k≤562949953421312∧t= .int .i64 k∧Hid (ae digit s.data.toList k=ae digit s.data.toList i)) (fun t=>s.size-(intOf t).toNat)
 case atStart=>exact⟨i,by omega,rfl,rfl⟩
 case round=>
  obtain⟨k,hk,rfl,gV⟩:=hrel;by_cases ax:k<s.size
  ·cases hd:digit s[k]
   all_goals
    go_wp2_with (go_at_call 136;refine(QG _ _).mono ?_;rintro e w' ⟨rfl,rfl⟩;rw[hd])
   ·go_ret;exact⟨aH (by rw[←gV.out,gI ax hd]),rfl⟩
   ·exact⟨⟨k+1,by omega,by go_num,aa ((gH ax hd).trans gV)⟩,OW ax⟩
  ·go_wp2_with fail;go_ret;exact⟨aH (by rw[←gV.out,bR (by simpa using ax)]),rfl⟩
def PI (u:Nat×Nat) (j:Nat):Value:=if u.1=7 then .tuple #[.int .i64 0,.int .i64 0,.int .i64 0]else .tuple #[.int .i64 ((u.2-j:Nat):Int),.int .i64 (dm u.1:Int),.int .i64 ((u.1+1:Nat):Int)]
theorem Jz (s:ByteArray) (i:Nat) (w:World) (hs:s.size≤281474976710656) (hi:i≤281474976710656):
  Calls prog 122 #[.string s,.int .i64 (i:Int)] w fun e w'=>e= .returned (PI (aO s.data.toList i) i)∧w=w':=by
 obtain⟨V,hV⟩: ∃V,V=PI (aO s.data.toList i) i:=⟨_,rfl⟩;rw[←hV];have HV:=aa hV;clear hV;by_cases ax:i<s.size
 ·have cL:=ar ax;by_cases hm:s[i].toNat=109
  ·have Qd:aq s.data.toList i=109:=by rw[cL];exact cM (n:=109) (by omega) hm
   by_cases h2:i+1<s.size
   ·have pG:=ar h2;by_cases h3:s[i+1].toNat=115
    ·have hE:=E6 (l:=s.data.toList) (i:=i) (by rw[ab];exact h2) Qd (by rw[pG];exact cM (n:=115) (by omega) h3);have FT:Hid (V= .tuple #[.int .i64 2,.int .i64 1,.int .i64 7]):=aa (by rw[HV.out,hE];simp[PI,dm]);have hc:((s[i].toNat:Int)==109)=true:=cC.2 (by omega);have Sf:((s[i+1].toNat:Int)==115)=true:=cC.2 (by omega);clear hE Qd cL pG HV hm h3;go_enter func122,ntmps122;go_wp2_with fail;refine cB (iu rfl _ _ _) rfl ?_;exact⟨by rw[FT.out];rfl,rfl⟩
    ·have hE:=ij (l:=s.data.toList) (i:=i) (k:=4) (by rw[ab];exact ax) (by rintro⟨_,_,h⟩;rw[pG]at h;rw[h]at h3;exact h3 rfl) (by omega) (by rw[Qd];rfl);have FT:Hid (V= .tuple #[.int .i64 1,.int .i64 60000,.int .i64 5]):=aa (by rw[HV.out,hE];simp[PI,dm]);have hc:((s[i].toNat:Int)==109)=true:=cC.2 (by omega);have Sf:((s[i+1].toNat:Int)==115)=false:=bN.2 (by omega);clear hE Qd cL pG HV hm h3;go_enter func122,ntmps122;go_wp2_with fail;refine cB (iu rfl _ _ _) rfl ?_;exact⟨by rw[FT.out];rfl,rfl⟩
   ·have hE:=ij (l:=s.data.toList) (i:=i) (k:=4) (by rw[ab];exact ax) (by rintro⟨_,h,_⟩;rw[ab]at h;exact h2 h) (by omega) (by rw[Qd];rfl);have FT:Hid (V= .tuple #[.int .i64 1,.int .i64 60000,.int .i64 5]):=aa (by rw[HV.out,hE];simp[PI,dm]);have hc:((s[i].toNat:Int)==109)=true:=cC.2 (by omega);clear hE Qd cL HV hm;go_enter func122,ntmps122;go_wp2_with fail;refine cB (iu rfl _ _ _) rfl ?_;exact⟨by rw[FT.out];rfl,rfl⟩
  ·have hn: ¬(aq s.data.toList i=109∧i+1<s.data.toList.length∧aq s.data.toList (i+1)=115):=by
    rintro⟨h,_⟩;rw[cL]at h;exact hm (by rw[h];rfl)
   have hc4:((s[i].toNat:Int)==109)=false:=bN.2 (by omega);by_cases hk:s[i].toNat=121∨s[i].toNat=119∨s[i].toNat=100∨s[i].toNat=104∨s[i].toNat=115
   ·rcases hk with hk|hk|hk|hk|hk
    ·have hE:=ij (l:=s.data.toList) (i:=i) (k:=0) (by rw[ab];exact ax) hn (by omega) (by rw[cL];exact(cM (n:=121) (by omega) hk).symm);have FT:Hid (V= .tuple #[.int .i64 1,.int .i64 31536000000,.int .i64 1]):=aa (by rw[HV.out,hE];simp[PI,dm]);have SD:((s[i].toNat:Int)==121)=true:=cC.2 (by omega);clear hE cL HV hm hk hn;go_enter func122,ntmps122;go_wp2_with fail;refine cB (iu rfl _ _ _) rfl ?_;exact⟨by rw[FT.out];rfl,rfl⟩
    ·have hE:=ij (l:=s.data.toList) (i:=i) (k:=1) (by rw[ab];exact ax) hn (by omega) (by rw[cL];exact(cM (n:=119) (by omega) hk).symm);have FT:Hid (V= .tuple #[.int .i64 1,.int .i64 604800000,.int .i64 2]):=aa (by rw[HV.out,hE];simp[PI,dm]);have SD:((s[i].toNat:Int)==121)=false:=bN.2 (by omega);have jQ:((s[i].toNat:Int)==119)=true:=cC.2 (by omega);clear hE cL HV hm hk hn;go_enter func122,ntmps122;go_wp2_with fail;refine cB (iu rfl _ _ _) rfl ?_;exact⟨by rw[FT.out];rfl,rfl⟩
    ·have hE:=ij (l:=s.data.toList) (i:=i) (k:=2) (by rw[ab];exact ax) hn (by omega) (by rw[cL];exact(cM (n:=100) (by omega) hk).symm);have FT:Hid (V= .tuple #[.int .i64 1,.int .i64 86400000,.int .i64 3]):=aa (by rw[HV.out,hE];simp[PI,dm]);have SD:((s[i].toNat:Int)==121)=false:=bN.2 (by omega);have jQ:((s[i].toNat:Int)==119)=false:=bN.2 (by omega);have kr:((s[i].toNat:Int)==100)=true:=cC.2 (by omega);clear hE cL HV hm hk hn;go_enter func122,ntmps122;go_wp2_with fail;refine cB (iu rfl _ _ _) rfl ?_;exact⟨by rw[FT.out];rfl,rfl⟩
    ·have hE:=ij (l:=s.data.toList) (i:=i) (k:=3) (by rw[ab];exact ax) hn (by omega) (by rw[cL];exact(cM (n:=104) (by omega) hk).symm);have FT:Hid (V= .tuple #[.int .i64 1,.int .i64 3600000,.int .i64 4]):=aa (by rw[HV.out,hE];simp[PI,dm]);have SD:((s[i].toNat:Int)==121)=false:=bN.2 (by omega);have jQ:((s[i].toNat:Int)==119)=false:=bN.2 (by omega);have kr:((s[i].toNat:Int)==100)=false:=bN.2 (by omega);have Sf:((s[i].toNat:Int)==104)=true:=cC.2 (by omega);clear hE cL HV hm hk hn;go_enter func122,ntmps122;go_wp2_with fail;refine cB (iu rfl _ _ _) rfl ?_;exact⟨by rw[FT.out];rfl,rfl⟩
    ·have hE:=ij (l:=s.data.toList) (i:=i) (k:=5) (by rw[ab];exact ax) hn (by omega) (by rw[cL];exact(cM (n:=115) (by omega) hk).symm);have FT:Hid (V= .tuple #[.int .i64 1,.int .i64 1000,.int .i64 6]):=aa (by rw[HV.out,hE];simp[PI,dm]);have SD:((s[i].toNat:Int)==121)=false:=bN.2 (by omega);have jQ:((s[i].toNat:Int)==119)=false:=bN.2 (by omega);have kr:((s[i].toNat:Int)==100)=false:=bN.2 (by omega);have Sf:((s[i].toNat:Int)==104)=false:=bN.2 (by omega);have hc5:((s[i].toNat:Int)==115)=true:=cC.2 (by omega);clear hE cL HV hm hk hn;go_enter func122,ntmps122;go_wp2_with fail;refine cB (iu rfl _ _ _) rfl ?_;exact⟨by rw[FT.out];rfl,rfl⟩
   ·have hE:=zk (l:=s.data.toList) (i:=i) (by rw[ab];exact ax) hn (by
     intro k hk6 he;rw[cL]at he;rw[←he]at hk hm;revert hk hm
     match k,hk6 with
     |0,_|1,_|2,_|3,_|4,_|5,_=>decide)
    have FT:Hid (V= .tuple #[.int .i64 0,.int .i64 0,.int .i64 0]):=aa (by rw[HV.out,hE];rfl);have SD:((s[i].toNat:Int)==121)=false:=bN.2 (by omega);have jQ:((s[i].toNat:Int)==119)=false:=bN.2 (by omega);have kr:((s[i].toNat:Int)==100)=false:=bN.2 (by omega);have Sf:((s[i].toNat:Int)==104)=false:=bN.2 (by omega);have hc5:((s[i].toNat:Int)==115)=false:=bN.2 (by omega);clear hE cL HV hm hk hn;go_enter func122,ntmps122;go_wp2_with fail;refine cB (iu rfl _ _ _) rfl ?_;exact⟨by rw[FT.out];rfl,rfl⟩
 ·have hE:=Ct (l:=s.data.toList) (i:=i) (by rw[ab];omega);have FT:Hid (V= .tuple #[.int .i64 0,.int .i64 0,.int .i64 0]):=aa (by rw[HV.out,hE];rfl);clear hE HV;go_enter func122,ntmps122;go_wp2_with fail;refine cB (iu rfl _ _ _) rfl ?_;exact⟨by rw[FT.out];rfl,rfl⟩
def manyN (l:List UInt8) (E:Nat):Nat:=if 315360000000000/E<sat l then 315360000000001 else sat l*E
theorem JA: ∀(l:List UInt8) (n:Nat),n≤315360000000001→n≤qA n l
 |[],_,_=>aS _
 |c::r,n,h=>by
  rw[qc];have h1:=JA r (iU n c) (uO n c);have h2:n≤iU n c:=by unfold iU;omega
  omega
theorem Uy (s:ByteArray) (E:Nat) (w:World) (hs:s.size≤281474976710656) (PJ:1≤E) (hE2:E≤31536000000) (hd: ∀k (h:k<s.size),48≤s[k].toNat∧s[k].toNat≤57):
  Calls prog 125 #[.string s,.int .i64 (E:Int)] w fun e w'=>e= .returned (.int .i64 (manyN s.data.toList E:Nat))∧w=w':=by
 have HD:=aa hd;obtain⟨V,hV⟩: ∃V,V=manyN s.data.toList E:=⟨_,rfl⟩;rw[←hV];have HV:=aa hV;obtain⟨q,hq⟩: ∃q,q=315360000000000/E:=⟨_,rfl⟩;have Eo:q≤315360000000000:=by rw[hq];exact Nat.div_le_self _ _
 have uw:q*E≤315360000000000:=by rw[hq];exact IZ _ _
 have Wm:(315360000000000:Int)/(E:Int)=(q:Int):=by rw[hq,Int.natCast_ediv];rfl
 have lB:((E:Int)==0)=false:=by rw[bN];omega
 have HQ:=aa hq;have HQ2:=aa uw;clear hd hV hq uw;go_enter func125,ntmps125;go_wp2_with fail;go_loop [5,6] (fun v i=> ∃k n:Nat,k≤s.size∧i= .int .i64 k∧v= .int .i64 n∧n≤q∧Hid (qA n (s.data.toList.drop k)=sat s.data.toList)) (fun _ i=>s.size-(intOf i).toNat)
 case atStart=>exact⟨0,0,dQ _,by go_num,by go_num,by omega,aa (by rw[Bj,sat])⟩
 case round=>
  obtain⟨k,n,hk,rfl,rfl,hn,gV⟩:=hrel;by_cases ax:k<s.size
  ·have dz:qA (iU n s[k]) (s.data.toList.drop (k+1))=sat s.data.toList:=by
    have h1:=drop_at (l:=s.data.toList) (i:=k) (by rw[ab];exact ax);rw[ar ax]at h1;exact(qc _ _ _).symm.trans ((cz (qA n) h1).symm.trans gV)
   obtain⟨h1,h2⟩:=HD k ax;have Sd:=JA (s.data.toList.drop (k+1)) (iU n s[k]) (uO n _);rw[dz]at Sd;rw[iU]at dz Sd;clear gV;by_cases hb:q<n*10+(s[k].toNat-48)
   ·have hVV:V=315360000000001:=by rw[HV.out,manyN,←HQ.out,au (by omega)]
    have HVV:=aa hVV;have hB:((q:Int)<(n:Int)*10+((s[k].toNat:Int)-48))=True:=aA (by omega);clear dz hb hVV Sd;go_wp2_with fail;go_ret;exact⟨aH (by rw[HVV.out];rfl),rfl⟩
   ·rw[mW (by omega)]at dz;have HS:=aa dz;have hB:((q:Int)<(n:Int)*10+((s[k].toNat:Int)-48))=False:=bU (by omega);clear dz Sd;go_wp2_with fail;exact⟨⟨k+1,n*10+(s[k].toNat-48),by omega,by go_num,by go_num,by omega,HS⟩,OW ax⟩
  ·have dz:sat s.data.toList=n:=by rw[←gV.out,uD (by rw[ab];omega)];rfl
   have hVV:V=n*E:=by rw[HV.out,manyN,←HQ.out,dz,af (by omega)]
   have HVV:=aa hVV;have hmul:n*E≤315360000000000:=bP (fi _ hn) HQ2;have ZW:(n:Int)*(E:Int)≤315360000000000:=by rw[←yQ];omega
   have afy:0≤(n:Int)*(E:Int):=by rw[←yQ];omega
   clear dz gV hVV hmul;go_wp2_with fail;go_ret;exact⟨aH (by rw[HVV.out,yQ]),rfl⟩
def gC (n:Int):List UInt8:=if 0≤n∧bq n.toNat=true then fZ n.toNat else[]
def gP (l:List UInt8) (i:Nat) (n0:Int):Nat→Int
 |0=>n0
 |j+1=>gP l i n0 j*64+((aq l (i+(j+1))).toNat:Int)-128
def Gd (w:Nat):Int:=if w=2 then 192 else if w=3 then 224 else if w=4 then 240 else 0
def jY (l:List UInt8) (i w:Nat):Int:=gP l i (((aq l i).toNat:Int)-Gd w) (w-1)
theorem Z2 (l:List UInt8) (i:Nat): ∀(w:Nat),i+w≤l.length→(l.drop i).take w=(List.range w).map fun j=>aq l (i+j)
 |0,_=>by simp
 |w+1,h=>by
  rw[ru,mX,←Z2 l i w (by omega),jy (by simp;omega)]
  congr 1
  simp only[kO,rj,vR];rw[aq,lA,eG (by omega)];rfl
theorem ofNat_eq (h:x<256):UInt8.ofNat x=c↔x=c.toNat:=by
 rw[eq_comm,yU h,eq_comm]
theorem X8 (c:UInt8):gC (c.toNat:Int)=[c]↔c.toNat<128:=by
 have hc:c.toNat<256:=c.toNat_lt;unfold gC fZ;simp only[my];constructor
 ·intro h;rcases dF c.toNat 128 with h1|h1
  ·exact h1
  ·rw[au ⟨by omega,by simp[bq];omega⟩,af (by omega),au (by omega)]at h;simp at h
 ·intro h;rw[au ⟨by omega,by simp[bq];omega⟩,au h,vD];exact⟨(ofNat_eq hc).2 rfl,rfl⟩
theorem X9 (b c:UInt8):gC (((b.toNat:Int)-192)*64+(c.toNat:Int)-128)=[b,c]↔(194≤b.toNat∧b.toNat≤223∧128≤c.toNat∧c.toNat≤191):=by
 have hb:b.toNat<256:=b.toNat_lt;have hc:c.toNat<256:=c.toNat_lt;obtain⟨n,hn⟩: ∃n:Int,n=((b.toNat:Int)-192)*64+(c.toNat:Int)-128:=⟨_,rfl⟩;rw[←hn];unfold gC;by_cases h0:0≤n∧bq n.toNat=true
 ·rw[au h0];obtain⟨m,rfl⟩: ∃m:Nat,n=m:=⟨n.toNat,by omega⟩;rw[my]at h0 ⊢
  unfold fZ;split
  ·simp;omega
  ·split
   ·rw[vD,vD,ofNat_eq (by omega),ofNat_eq (by omega)];simp only[kS];constructor
    ·rintro⟨h1,h2⟩;omega
    ·intro h;omega
   ·split
    ·simp;omega
    ·simp;omega
 ·rw[af h0];simp only[List.nil_eq,reduceCtorEq,false_iff];intro h;refine h0 ⟨by omega,?_⟩;simp[bq];omega
theorem Ya (b c d:UInt8):gC (((((b.toNat:Int)-224)*64+(c.toNat:Int)-128))*64+(d.toNat:Int)-128)=[b,c,d]↔
  (224≤b.toNat∧b.toNat≤239∧128≤c.toNat∧c.toNat≤191∧128≤d.toNat∧d.toNat≤191∧(b.toNat=224→160≤c.toNat)∧(b.toNat=237→c.toNat≤159)):=by
 have hb:b.toNat<256:=b.toNat_lt;have hc:c.toNat<256:=c.toNat_lt;have hd:d.toNat<256:=d.toNat_lt;obtain⟨n,hn⟩: ∃n:Int,n=((((b.toNat:Int)-224)*64+(c.toNat:Int)-128))*64+(d.toNat:Int)-128:=⟨_,rfl⟩;rw[←hn];unfold gC;by_cases h0:0≤n∧bq n.toNat=true
 ·rw[au h0];obtain⟨m,rfl⟩: ∃m:Nat,n=m:=⟨n.toNat,by omega⟩;rw[my]at h0 ⊢
  have hr:=h0.2;simp[bq]at hr;unfold fZ;split
  ·simp;omega
  ·split
   ·simp;omega
   ·split
    ·rw[vD,vD,vD,ofNat_eq (by omega),ofNat_eq (by omega),ofNat_eq (by omega)];simp only[kS];constructor
     ·rintro⟨h1,h2,h3⟩;omega
     ·intro h;omega
    ·simp;omega
 ·rw[af h0];simp only[List.nil_eq,reduceCtorEq,false_iff];intro h;refine h0 ⟨by omega,?_⟩;simp[bq];omega
theorem Yb (b c d e:UInt8):gC ((((((b.toNat:Int)-240)*64+(c.toNat:Int)-128))*64+(d.toNat:Int)-128)*64+(e.toNat:Int)-128)=[b,c,d,e]↔
  (240≤b.toNat∧b.toNat≤244∧128≤c.toNat∧c.toNat≤191∧128≤d.toNat∧d.toNat≤191∧128≤e.toNat∧e.toNat≤191∧(b.toNat=240→144≤c.toNat)∧(b.toNat=244→c.toNat≤143)):=by
 have hb:b.toNat<256:=b.toNat_lt;have hc:c.toNat<256:=c.toNat_lt;have hd:d.toNat<256:=d.toNat_lt;have he:e.toNat<256:=e.toNat_lt;obtain⟨n,hn⟩: ∃n:Int,n=(((((b.toNat:Int)-240)*64+(c.toNat:Int)-128))*64+(d.toNat:Int)-128)*64+(e.toNat:Int)-128:=⟨_,rfl⟩;rw[←hn];unfold gC;by_cases h0:0≤n∧bq n.toNat=true
 ·rw[au h0];obtain⟨m,rfl⟩: ∃m:Nat,n=m:=⟨n.toNat,by omega⟩;rw[my]at h0 ⊢
  have hr:=h0.2;simp[bq]at hr;unfold fZ;split
  ·simp;omega
  ·split
   ·simp;omega
   ·split
    ·simp;omega
    ·rw[vD,vD,vD,vD,ofNat_eq (by omega),ofNat_eq (by omega),ofNat_eq (by omega),ofNat_eq (by omega)];simp only[kS];constructor
     ·rintro⟨h1,h2,h3,h4⟩;omega
     ·intro h;omega
 ·rw[af h0];simp only[List.nil_eq,reduceCtorEq,false_iff];intro h;refine h0 ⟨by omega,?_⟩;simp[bq];omega
theorem abz (n b c d e:Nat):(¬Lib.decodeN n b c d e=(65533,1)∧(Lib.decodeN n b c d e).2=1)↔b<128:=by
 unfold Lib.decodeN
 repeat' split
 all_goals first|(simp;done)|(simp;omega)
theorem abA (n b c d e:Nat) (hn:2≤n) (hb:b<256) (hc:c<256):(¬Lib.decodeN n b c d e=(65533,1)∧(Lib.decodeN n b c d e).2=2)↔(194≤b∧b≤223∧128≤c∧c≤191):=by
 unfold Lib.decodeN
 repeat' split
 all_goals first|(simp;done)|(simp;omega)
theorem abB (n b c d e:Nat) (hn:3≤n) (hb:b<256) (hc:c<256) (hd:d<256):(¬Lib.decodeN n b c d e=(65533,1)∧(Lib.decodeN n b c d e).2=3)↔
  (224≤b∧b≤239∧128≤c∧c≤191∧128≤d∧d≤191∧(b=224→160≤c)∧(b=237→c≤159)):=by
 unfold Lib.decodeN
 repeat' split
 all_goals first|(simp;done)|(simp;omega)
theorem abC (n b c d e:Nat) (hn:4≤n) (hb:b<256) (hc:c<256) (hd:d<256) (he:e<256):(¬Lib.decodeN n b c d e=(65533,1)∧(Lib.decodeN n b c d e).2=4)↔
  (240≤b∧b≤244∧128≤c∧c≤191∧128≤d∧d≤191∧128≤e∧e≤191∧(b=240→144≤c)∧(b=244→c≤143)):=by
 unfold Lib.decodeN
 repeat' split
 all_goals first|(simp;done)|(simp;omega)
theorem afz (l:List UInt8) (i:Nat):(dec l i).2≤4:=by
 unfold dec Lib.decodeN
 repeat' split
 all_goals simp
theorem OY (h:i+w≤l.length) (h1:1≤w) (h4:w≤4):gC (jY l i w)=(l.drop i).take w↔(bad l i=false∧(dec l i).2=w):=by
 have DO:bad l i=false↔ ¬dec l i=(65533,1):=by unfold bad;rw[bN]
 rw[DO,Z2 l i w h,dec];have e0:l.getD i 0=aq l i:=rfl;have e1:l.getD (i+1) 0=aq l (i+1):=rfl;have e2:l.getD (i+2) 0=aq l (i+2):=rfl;have e3:l.getD (i+3) 0=aq l (i+3):=rfl;rw[e0,e1,e2,e3];have t0:(aq l i).toNat<256:=(aq l i).toNat_lt;have t1:(aq l (i+1)).toNat<256:=(aq l (i+1)).toNat_lt;have t2:(aq l (i+2)).toNat<256:=(aq l (i+2)).toNat_lt;have t3:(aq l (i+3)).toNat<256:=(aq l (i+3)).toNat_lt;have hw:w=1∨w=2∨w=3∨w=4:=by omega
 rcases hw with rfl|rfl|rfl|rfl
 ·rw[abz,←X8];simp[jY,gP,Gd,ru]
 ·rw[abA _ _ _ _ _ (by omega) t0 t1,←X9];simp[jY,gP,Gd,ru]
 ·rw[abB _ _ _ _ _ (by omega) t0 t1 t2,←Ya];simp[jY,gP,Gd,ru]
 ·rw[abC _ _ _ _ _ (by omega) t0 t1 t2 t3,←Yb];simp[jY,gP,Gd,ru]
def tU (l:List UInt8) (i:Nat):Nat:=if bad l i=true then 0 else(dec l i).2
theorem QH (h:i+w≤l.length) (h1:1≤w) (h4:w≤4) (hh:gC (jY l i w)=(l.drop i).take w):tU l i=w:=by
 obtain⟨hb,hw⟩:=(OY h h1 h4).1 hh;rw[tU,hb,af (by simp),hw]
theorem MP (hi:i<l.length) (hw:w=5∨l.length<i+w) (hh: ∀v,1≤v→v<w→gC (jY l i v)≠(l.drop i).take v):tU l i=0:=by
 unfold tU;cases hb:bad l i
 ·exfalso;have h1:=wj l i;have h2:=Tw l i hi;have h3:=afz l i;exact hh _ h1 (by omega) ((OY h2 h1 h3).2 ⟨hb,rfl⟩)
 ·rw[au rfl]
theorem Uz (l:List UInt8) (i:Nat) (n0:Int) (h: -255≤n0∧n0≤255): ∀j,j≤3→ -100000000≤gP l i n0 j∧gP l i n0 j≤100000000:=by
 have hb: ∀k,(aq l k).toNat<256:=fun k=>(aq l k).toNat_lt
 intro j hj;have hc:j=0∨j=1∨j=2∨j=3:=by omega
 have b1:=hb (i+(0+1));have b2:=hb (i+(1+1));have b3:=hb (i+(2+1));rcases hc with rfl|rfl|rfl|rfl<;>simp only[gP]<;>omega
theorem QI (n:Int):(gC n).length≤4:=by
 unfold gC;split
 ·exact(xX _).2
 ·simp
