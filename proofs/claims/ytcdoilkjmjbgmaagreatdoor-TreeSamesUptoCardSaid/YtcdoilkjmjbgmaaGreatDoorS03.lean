import Derived.Test.YtcdoilkjmjbgmaaGreatDoorS02
import Derived.Deep.QuietTactic
import Derived.BigQuiet
import Derived.Deep.CutRange
/- Part of the proof of YtcdoilkjmjbgmaaGreatDoorCardY: PlD SpanA SpanB SpanC NumA NumB UtfE RzA RcA RaA. -/
set_option maxRecDepth 100000
set_option maxHeartbeats 4000000
set_option linter.unusedVariables false
set_option linter.unusedSimpArgs false
namespace Go.Proofs.YtcdoilkjmjbgmaaGreatDoor
open Go.RowKit
open Go.Proofs.Tryz
variable {c q:UInt8} {k i f fin next sum at' u behind j n w a base F r x:Nat} {l b I bs:List UInt8} {s:ByteArray} {w':World} {P:Program} {v:Value} {e:TypeId}
def xj:Nat→UInt8
 |0=>121|1=>119|2=>100|3=>104|4=>109|_=>115
def dh:Nat→Nat
 |0=>31536000000|1=>604800000|2=>86400000|3=>3600000|4=>60000|5=>1000|_=>1
def Xa (c:UInt8):Nat:=if c=121 then 0 else if c=119 then 1 else if c=100 then 2 else if c=104 then 3 else if c=109 then 4 else if c=115 then 5 else 7
def aN (l:List UInt8) (i:Nat):Nat×Nat:=
 if l.length≤i then(7,i)
 else if au l i=109∧i+1<l.length∧au l (i+1)=115 then(6,i+2)
 else if Xa (au l i)=7 then(7,i)else(Xa (au l i),i+1)
def iL (n:Nat) (c:UInt8):Nat:=min (n*10+(c.toNat-48)) 315360000000001
def ql (n:Nat) (l:List UInt8):Nat:=l.foldl iL n
def sat (l:List UInt8):Nat:=ql 0 l
def jw (n u sum:Nat):Nat:=if 315360000000000/dh u<n then 315360000000001 else min (sum+n*dh u) 315360000000001
def D3:Nat→List UInt8→Nat→Nat→Nat→Nat×Nat
 |0,_,fin,_,sum=>(fin,sum)
 |f+1,l,fin,next,sum=>
  if ag digit l fin=fin∨(aN l (ag digit l fin)).1<next∨(aN l (ag digit l fin)).1=7 then(fin,sum)
  else D3 f l (aN l (ag digit l fin)).2 ((aN l (ag digit l fin)).1+1) (jw (sat ((l.drop fin).take (ag digit l fin-fin))) (aN l (ag digit l fin)).1 sum)
def measure (l:List UInt8):Nat×Nat:=D3 8 l 0 0 0
def aX (l:List UInt8):Nat:=(measure l).1
def bz (l:List UInt8):Nat×Nat:=
 if 64<l.length then(0,1)
 else if (measure l).1=0∨(measure l).1<l.length then(0,30)
 else if 315360000000000<(measure l).2 then(0,31)else((measure l).2,0)
theorem pO (n:Nat) (c:UInt8) (r:List UInt8):ql n (c::r)=ql (iL n c) r:=by
 unfold ql;exact List.foldl_cons ..
theorem ur (n:Nat) (c:UInt8):iL n c≤315360000000001:=by unfold iL;exact Nat.min_le_right _ _
theorem I1: ∀(l:List UInt8) (n:Nat),n≤315360000000001→ql n l≤315360000000001
 |[],n,h=>h
 |c::r,n,_=>by
  have h:=pO n c r;rw[h];exact I1 r _ (ur n c)
theorem abG (l:List UInt8):sat l≤315360000000001:=by
 rw[sat];exact I1 l 0 (aV _)
theorem abH (c:UInt8):Xa c≤5∨Xa c=7:=by
 unfold Xa
 repeat' split
 all_goals omega
theorem jX (l:List UInt8) (i:Nat):i≤(aN l i).2∧(i≤l.length→(aN l i).2≤l.length)∧((aN l i).1≤6∨(aN l i).1=7):=by
 unfold aN;split
 ·exact⟨aS _,fun h=>h,.inr rfl⟩
 ·split
  ·rename_i h;exact⟨by simp,fun _=>by simp;omega,.inl (by simp)⟩
  ·split
   ·exact⟨aS _,fun h=>h,.inr rfl⟩
   ·rename_i h;have:=abH (au l i);exact⟨by simp,fun _=>by simp;omega,.inl (by simp;omega)⟩
theorem TM: ∀(f:Nat) (l:List UInt8) (fin next sum:Nat),fin≤l.length→(D3 f l fin next sum).1≤l.length
 |0,_,_,_,_,h=>h
 |f+1,l,fin,next,sum,h=>by
  rw[D3];split
  ·exact h
  ·exact TM f l _ _ _ ((jX l _).2.1 (bK digit l fin h))
theorem kD (l:List UInt8):aX l≤l.length:=TM 8 l 0 0 0 (aV _)
theorem Yh (hk:k<6) (h:xj k=c):Xa c=k:=by
 subst h
 match k,hk with
 |0,_=>rfl|1,_=>rfl|2,_=>rfl|3,_=>rfl|4,_=>rfl|5,_=>rfl
theorem Uw (h: ∀k,k<6→xj k≠c):Xa c=7:=by
 have h0:=h 0 (by omega);have h1:=h 1 (by omega);have h2:=h 2 (by omega);have h3:=h 3 (by omega);have h4:=h 4 (by omega);have h5:=h 5 (by omega);simp only[xj]at*
 unfold Xa;rw[ah (Ne.symm h0),ah (Ne.symm h1),ah (Ne.symm h2),ah (Ne.symm h3),ah (Ne.symm h4),ah (Ne.symm h5)]
theorem EJ (u:Nat):1≤dh u∧dh u≤31536000000:=by
 unfold dh;split<;>omega
theorem Mx (c:UInt8) (w:World):
  Calls prog 191 #[.int .u8 (c.toNat:Int)] w fun e w'=>e= .returned (.bool (digit c))∧w=w':=by
 go_enter func191,ntmps191;go_wp2
 all_goals (go_ret;exact⟨ar (by rw[eo];simp[digit];omega),rfl⟩)
theorem Ux (s:ByteArray) (x:Int) (i:Nat) (hx:x=(i:Int)) (w:World) (hs:s.size≤281474976710656) (hi:i≤281474976710656):
  Calls prog 179 #[.string s,.int .i64 x] w fun e w'=>e= .returned (.int .i64 (ag digit s.data.toList i:Nat))∧w=w':=by
 subst hx;go_enter func179,ntmps179;go_wp2_with fail;go_loop [1] (fun t=> ∃k:Nat,k≤562949953421312∧t= .int .i64 k∧Hid (ag digit s.data.toList k=ag digit s.data.toList i)) (fun t=>s.size-(intOf t).toNat)
 case atStart=>exact⟨i,by omega,rfl,rfl⟩
 case round=>
  obtain⟨k,hk,rfl,gM⟩:=hrel;by_cases aA:k<s.size
  ·cases hd:digit s[k]
   all_goals
    go_wp2_with (go_at_call 191;refine(Mx _ _).mono ?_;rintro e w' ⟨rfl,rfl⟩)
   ·go_ret;exact⟨aH (by rw[←gM.out,gA aA hd]),rfl⟩
   ·go_round
    case rel=>exact⟨k+1,by omega,by go_num,(gz aA hd).trans gM⟩
    case measure=>simp[intOf];omega
  ·go_wp2_with fail;go_ret;exact⟨aH (by rw[←gM.out,bP (by simpa using aA)]),rfl⟩
theorem Qi (x : Int) (k : Nat) (hx : x = (k : Int)) (hk : k < 6) (w : World) :
    Calls prog 192 #[.int .i64 x] w fun e w'=>e= .returned (.string ⟨#[xj k]⟩)∧w=w':=by
  subst hx
  match k,hk with
  | 0, _ | 1, _ | 2, _ | 3, _ | 4, _ | 5, _ =>
    go_enter func192,ntmps192
    go_wp2_with fail
    go_ret
    exact⟨rfl,rfl⟩
theorem oJ (x : Int) (u : Nat) (hx : x = (u : Int)) (hu : u ≤ 6) (w : World) :
    Calls prog 182 #[.int .i64 x] w fun e w'=>e= .returned (.int .i64 (dh u:Nat))∧w=w':=by
  subst hx
  match u,hu with
  | 0, _ | 1, _ | 2, _ | 3, _ | 4, _ | 5, _ | 6, _ =>
    go_enter func182,ntmps182
    go_wp2_with fail
    go_ret
    exact⟨rfl,rfl⟩
theorem CM (s:ByteArray) (w:World) (hs:s.size≤281474976710656) (hd: ∀k (h:k<s.size),48≤s[k].toNat∧s[k].toNat≤57):
  Calls prog 181 #[.string s] w fun e w'=>e= .returned (.int .i64 (sat s.data.toList:Nat))∧w=w':=by
 have HD:=ae hd;clear hd;go_enter func181,ntmps181;go_wp2_with fail;go_loop [3,4] (fun v i=> ∃k n:Nat,k≤s.size∧i= .int .i64 k∧v= .int .i64 n∧(n:Int)≤315360000000001∧Hid (ql n (s.data.toList.drop k)=sat s.data.toList)) (fun _ i=>s.size-(intOf i).toNat)
 case atStart=>exact⟨0,0,aV _,by go_num,by go_num,by omega,ae (by rw[mT,sat])⟩
 case round=>
  obtain⟨k,n,hk,rfl,rfl,hn,gM⟩:=hrel;by_cases aA:k<s.size
  ·have dy:ql (iL n s[k]) (s.data.toList.drop (k+1))=sat s.data.toList:=by
    have h1:=drop_at (l:=s.data.toList) (i:=k) (by rw[af];exact aA);rw[ay aA]at h1;exact(pO _ _ _).symm.trans ((cn (ql n) h1).symm.trans gM)
   rw[iL]at dy;obtain⟨h1,h2⟩:=HD k aA;clear gM;by_cases hb:(315360000000001:Int)<(n:Int)*10+((s[k].toNat:Int)-48)
   ·rw[qi (by omega)]at dy;have HS:=ae dy;have hB:((315360000000001:Int)<(n:Int)*10+((s[k].toNat:Int)-48))=True:=by simp[hb]
    clear dy hb;go_wp2_with fail;go_round
    case rel=>exact⟨k+1,315360000000001,by omega,by go_num,by go_num,by omega,HS⟩
    case measure=>simp[intOf];omega
   ·rw[mS (by omega)]at dy;have HS:=ae dy;have hB:((315360000000001:Int)<(n:Int)*10+((s[k].toNat:Int)-48))=False:=by simp[hb]
    clear dy;go_wp2_with fail;go_round
    case rel=>exact⟨k+1,n*10+(s[k].toNat-48),by omega,by go_num,by go_num,by omega,HS⟩
    case measure=>simp[intOf];omega
  ·have dy:sat s.data.toList=n:=by rw[←gM.out,tY (by rw[af];omega)];rfl
   have HS:=ae dy;clear dy gM;go_wp2_with fail;go_ret;exact⟨aH (by rw[HS.out]),rfl⟩
def Two (w:World) (r:Nat×Nat) (e:Ending) (w':World):Prop:=e= .returned (.tuple #[.int .i64 (r.1:Nat),.int .i64 (r.2:Nat)])∧Below w.heap.size w w'
theorem Ca (h:l.length≤i):aN l i=(7,i):=by rw[aN,az h]
theorem EK (h:i+1<l.length) (h1:au l i=109) (h2:au l (i+1)=115):aN l i=(6,i+2):=by
 rw[aN,ah (by omega),az ⟨h1,h,h2⟩]
theorem gW (h:i<l.length) (hn: ¬(au l i=109∧i+1<l.length∧au l (i+1)=115)) (hk:k<6) (hh:xj k=au l i):aN l i=(k,i+1):=by
 rw[aN,ah (by omega),ah hn,Yh hk hh,ah (by omega)]
theorem yQ (h:i<l.length) (hn: ¬(au l i=109∧i+1<l.length∧au l (i+1)=115)) (hh: ∀k,k<6→xj k≠au l i):aN l i=(7,i):=by
 rw[aN,ah (by omega),ah hn,Uw hh,az rfl]
theorem kl (s:ByteArray) (x:Int) (i:Nat) (hx:x=(i:Int)) (w:World) (hs:s.size≤281474976710656) (hi:i<s.size) (hn: ¬(au s.data.toList i=109∧i+1<s.data.toList.length∧au s.data.toList (i+1)=115))
  (hb:(((s[i].toNat:Int)==109)=false)∨(((s[i].toNat:Int)==109)=true∧((i:Int)+1<s.size)=False)∨(∃h:i+1<s.size,((s[i].toNat:Int)==109)=true∧((s[i+1].toNat:Int)==115)=false)):
  Calls prog 180 #[.string s,.int .i64 x] w (Two w (aN s.data.toList i)):=by
 subst hx;have HN:=ae hn;clear hn;go_enter func180,ntmps180;have wZ:((i:Int)<(s.size:Int))=True:=by simp;omega
 rcases hb with hb|⟨hb,aQ⟩|⟨h,hb,aQ⟩
 all_goals
  go_wp2_with fail;go_loopw [6] (fun t wr=> ∃k:Nat,k≤6∧t= .int .i64 k∧Below w.heap.size w wr∧Hid (∀j,j<k→xj j≠s[i])) (fun t _=>6-(intOf t).toNat)
  case atStart=>exact⟨0,by omega,rfl,aU _ _,fun j hj=>absurd hj (by omega)⟩
  case round=>
   obtain⟨k,hk,rfl,bO,fG⟩:=hrel;by_cases aA:k<6
   ·go_wp2_with fail;go_quiet ((go_at_call 192;exact Calls.quiet_of_same ((Qi _ k rfl aA _).mono fun _ _ ⟨h1,h2⟩=>⟨h1,h2.symm⟩)));have ox:=bZ bO nq;clear bO;generalize wr.drewN nq=w2 at ox ⊢
    have HM:=ae fG;clear fG;have NR:(⟨#[xj k]⟩:ByteArray)[0]'(by simp[ByteArray.size])=xj k:=rfl;cases hq:((((⟨#[xj k]⟩:ByteArray)[0]'(by simp[ByteArray.size])).toNat:Int)==(s[i].toNat:Int))
    ·have td: ∀j,j<k+1→xj j≠s[i]:=by
      intro j hj;by_cases hjk:j<k
      ·exact HM j hjk
      ·have:j=k:=by omega
       subst this;intro he;rw[NR,he]at hq;simp at hq
     have Wp:=ae td;clear td;go_wp2_with fail;go_roundw
     case rel=>exact⟨k+1,by omega,by go_num,ox,Wp⟩
     case measure=>simp[intOf];omega
    ·have hu:xj k=s[i]:=by
      rw[NR]at hq;have h1:((xj k).toNat:Int)=(s[i].toNat:Int):=by simpa using hq
      exact A4.1 (by omega)
     have hE:=gW (l:=s.data.toList) (by rw[af];exact hi) HN aA (by rw[ay hi];exact hu);have HE:=ae hE;clear hE hu;go_wp2_with fail;go_ret2;exact⟨by rw[HE.out];rfl,ox⟩
   ·obtain rfl:k=6:=by omega
    have HE:=ae (yQ (l:=s.data.toList) (by rw[af];exact hi) HN (by rw[ay hi];intro j hj;exact fG j (by omega)));clear fG;go_wp2_with fail;go_ret2;exact⟨by rw[HE.out];rfl,bO⟩
theorem JU (s:ByteArray) (x:Int) (i:Nat) (hx:x=(i:Int)) (w:World) (hs:s.size≤281474976710656) (hi:i≤281474976710656):
  Calls prog 180 #[.string s,.int .i64 x] w (Two w (aN s.data.toList i)):=by
 by_cases ho:s.size≤i
 ·have hE:=Ca (l:=s.data.toList) (i:=i) (by rw[af];exact ho);have HE:=ae hE;clear hE;subst hx;go_enter func180,ntmps180;go_wp2_with fail;go_ret2;exact⟨by rw[HE.out];rfl,aU _ _⟩
 ·have aA:i<s.size:=by omega
  cases h1:((s[i].toNat:Int)==109)
  ·exact kl s x i hx w hs aA (by rw[ay aA];rintro⟨h,_⟩;rw[h]at h1;simp at h1) (.inl h1)
  ·by_cases h2:i+1<s.size
   ·cases h3:((s[i+1].toNat:Int)==115)
    ·exact kl s x i hx w hs aA (by rw[ay h2];rintro⟨_,_,h⟩;rw[h]at h3;simp at h3) (.inr (.inr ⟨h2,h1,h3⟩))
    ·have e1:au s.data.toList i=109:=by rw[ay aA];exact om (n:=109) (by omega) rfl h1
     have e2:au s.data.toList (i+1)=115:=by rw[ay h2];exact om (n:=115) (by omega) rfl h3
     have HE:=ae (EK (l:=s.data.toList) (i:=i) (by rw[af];exact h2) e1 e2);clear e1 e2;subst hx;go_enter func180,ntmps180;have wZ:((i:Int)<(s.size:Int))=True:=by simp;omega
     have Pk:((i:Int)+1<(s.size:Int))=True:=by simp;omega
     go_wp2_with fail;go_ret2;exact⟨by rw[HE.out];rfl,aU _ _⟩
   ·exact kl s x i hx w hs aA (by rw[af];omega) (.inr (.inl ⟨h1,by simp;omega⟩))
theorem jA (h:ag digit l fin=fin∨(aN l (ag digit l fin)).1<next∨(aN l (ag digit l fin)).1=7):D3 (f+1) l fin next sum=(fin,sum):=by
 rw[D3,az h]
theorem LR (h1:ag digit l fin=at') (h2:aN l at'=(u,behind)) (h3:at'≠fin) (h4:next≤u) (h5:u≠7):D3 (f+1) l fin next sum=D3 f l behind (u+1) (jw (sat ((l.drop fin).take (at'-fin))) u sum):=by
 rw[D3,h1,h2,ah (by omega)]
theorem GD (p:UInt8→Bool) (l:List UInt8) (i:Nat):(l.drop i).take (ag p l i-i)=(l.drop i).takeWhile p:=by
 rw[ag,show i+((l.drop i).takeWhile p).length-i=((l.drop i).takeWhile p).length by omega];exact(List.prefix_iff_eq_take.1 (List.takeWhile_prefix p)).symm
theorem My (h:digit c=true):48≤c.toNat∧c.toNat≤57:=by
 simp[digit]at h;omega
theorem yR (hj:ag digit s.data.toList i=j): ∀k (h:k<(s.extract i j).size),48≤(s.extract i j)[k].toNat∧(s.extract i j)[k].toNat≤57:=by
 intro k h;have hl:(s.extract i j).data.toList=(s.data.toList.drop i).takeWhile digit:=by
  rw[Lib.extract_data,←hj,GD]
 have hk:k<(s.extract i j).data.toList.length:=by rw[af];exact h
 have hm:(s.extract i j)[k]∈(s.data.toList.drop i).takeWhile digit:=by
  rw[←hl,←gl _ k hk];exact jj _
 exact My (qS.1 List.all_takeWhile _ hm)
theorem yS (h:315360000000000/dh u<n):jw n u sum=315360000000001:=by
 unfold jw;rw[az h]
theorem yT (h:n≤315360000000000/dh u):jw n u sum=min (sum+n*dh u) 315360000000001:=by
 unfold jw;rw[ah (by omega)]
theorem I2 (h:n≤315360000000000/dh u):n*dh u≤315360000000000:=
 bR (fg _ h) (Iu _ _)
theorem nt {w:World} {r:Nat×Nat} {b:Nat} (h:r=(a,b)) (hb:Below w.heap.size w w'):Two w r (.returned (.tuple #[.int .i64 (a:Int),.int .i64 (b:Int)])) w':=by
 subst h;exact⟨rfl,hb⟩
theorem wK (s:ByteArray) (w:World) (hs:s.size≤281474976710656):Calls prog 167 #[.string s] w (Two w (measure s.data.toList)):=by
 go_enter func167,ntmps167;go_wp2_with fail;go_loopw [4,5,6] (fun v t x wr=> ∃f fin next sum:Nat,fin≤s.size∧next≤7∧8≤f+next∧(sum:Int)≤315360000000001∧v= .int .i64 fin∧t= .int .i64 sum∧x= .int .i64 next∧Below w.heap.size w wr∧Hid (D3 f s.data.toList fin next sum=measure s.data.toList)) (fun _ _ x _=>7-(intOf x).toNat)
 case atStart=>exact⟨8,0,0,0,aV _,by omega,by omega,by omega,by go_num,by go_num,by go_num,aU _ _,ae rfl⟩
 case round=>
  obtain⟨f,fin,next,sum,mu,Z9,hf,aqY,rfl,rfl,rfl,bO,hM⟩:=hrel;obtain⟨f,rfl⟩: ∃g,f=g+1:=⟨f-1,by omega⟩;go_wp2_with fail;refine(Ux s _ fin rfl _ hs (by omega)).mono ?_;rintro e w1 ⟨rfl,rfl⟩;have qR:=aW digit s.data.toList fin;have pg:=bK digit s.data.toList fin (by rw[af];exact mu);rw[af]at pg;obtain⟨at',cI⟩: ∃k,k=ag digit s.data.toList fin:=⟨_,rfl⟩;rw[←cI]at qR pg ⊢
  have HA:=ae cI;clear cI;go_wp2_with fail;refine(JU s _ at' rfl _ hs (by omega)).mono ?_;rintro e w2 ⟨rfl,aQ⟩;have ox:=bO.trans (aQ.mono bO.size);clear aQ bO;have hU:=jX s.data.toList at';rw[af]at hU;obtain⟨u,behind,hu⟩: ∃u b,(u,b)=aN s.data.toList at':=⟨_,_,rfl⟩;rw[←hu]at hU ⊢
  obtain⟨hU1,Sc,Zx⟩:=hU;have HU:=ae hu;clear hu;simp only at hU1 Sc Zx ⊢
  cases hq:((at':Int)==(fin:Int))
  ·cases aA:decide (u<next)
   ·cases h7:((u:Int)==7)
    ·go_wp2_with fail;have hf1:at'≠fin:=by have:=kE hq;omega
     have AE:next≤u:=by have:=sX aA;omega
     have hu7:u≠7:=by have:=kE h7;omega
     have hg:=(LR (f:=f) (l:=s.data.toList) (fin:=fin) (next:=next) (sum:=sum) HA.symm HU.symm hf1 AE hu7).symm.trans hM;have oo:=yR (s:=s) (i:=fin) HA.symm;have KV:(s.extract fin at').size≤281474976710656:=by simp;omega
     have qG:(s.extract fin at').data.toList=(s.data.toList.drop fin).take (at'-fin):=Lib.extract_data ..;refine(CM _ _ KV oo).mono ?_;rintro e w3 ⟨rfl,rfl⟩;rw[qG];have hle:=abG ((s.data.toList.drop fin).take (at'-fin));obtain⟨n,hn⟩: ∃n,n=sat ((s.data.toList.drop fin).take (at'-fin)):=⟨_,rfl⟩;rw[←hn]at hle hg ⊢
     have aeI:(n:Int)≤315360000000001:=by omega
     have HG:=ae hg;have Lm:=Sc pg;have hu6:u≤6:=by omega
     clear hn hle oo KV qG hg hM Sc Zx HA HU;have hz:=EJ u;obtain⟨de,ej⟩:=hz;have Dg:((dh u:Int)==0)=false:=by rw[bN];omega
     have mh:(dh u:Int)≤31536000000:=by omega
     clear ej;have Wq:(315360000000000:Int)/(dh u:Int)=((315360000000000/dh u:Nat):Int):=by rw[Int.natCast_ediv];rfl
     cases iA:decide ((315360000000000:Int)/(dh u:Int)<(n:Int))
     ·have RP:n≤315360000000000/dh u:=by have:=sX iA;omega
      have hmul:=I2 (u:=u) RP;have KW:=yT (u:=u) (sum:=sum) RP;clear RP Wq;have Z6:(n:Int)*(dh u:Int)≤315360000000000:=by rw[←yw];omega
      have afN:0≤(n:Int)*(dh u:Int):=by rw[←yw];omega
      have γ:(n:Int)*(dh u:Int)=((n*dh u:Nat):Int):=by rw[←yw]
      have HM:=ae γ;clear γ;go_wp2_with fail;refine(oJ _ u rfl hu6 _).mono ?_;rintro e w3 ⟨rfl,rfl⟩;cases Ic:decide ((315360000000001:Int)<(sum:Int)+(n:Int)*(dh u:Int))
      ·have IK:sum+n*dh u≤315360000000001:=by
        have:=sX Ic;rw[HM.out]at this;omega
       rw[KW,mS IK]at HG;clear IK KW;go_wp2_with fail;refine(oJ _ u rfl hu6 _).mono ?_;rintro e w3 ⟨rfl,rfl⟩;go_wp2_with fail;go_roundw
       case rel=>exact⟨f,behind,u+1,sum+n*dh u,Lm,by omega,by omega,by have:=sX Ic;have:=HM.out;omega,by go_num,by rw[ah (sX Ic),HM.out,←Int.natCast_add],by go_num,ox,HG⟩
       case measure=>simp[intOf];omega
      ·have IK:315360000000001≤sum+n*dh u:=by
        have:=mR Ic;rw[HM.out]at this;omega
       rw[KW,qi IK]at HG;clear IK KW;go_wp2_with fail;refine(oJ _ u rfl hu6 _).mono ?_;rintro e w3 ⟨rfl,rfl⟩;go_wp2_with fail;go_roundw
       case rel=>exact⟨f,behind,u+1,315360000000001,Lm,by omega,by omega,by omega,by go_num,by rw[az (mR Ic)];rfl,by go_num,ox,HG⟩
       case measure=>simp[intOf];omega
     ·have KW:=yS (u:=u) (n:=n) (sum:=sum) (by have:=mR iA;omega);rw[KW]at HG;clear KW Wq;go_wp2_with fail;refine(oJ _ u rfl hu6 _).mono ?_;rintro e w3 ⟨rfl,rfl⟩;go_wp2_with fail;refine(oJ _ u rfl hu6 _).mono ?_;rintro e w3 ⟨rfl,rfl⟩;go_wp2_with fail;go_roundw
      case rel=>exact⟨f,behind,u+1,315360000000001,Lm,by omega,by omega,by omega,by go_num,by go_num,by go_num,ox,HG⟩
      case measure=>simp[intOf];omega
    ·have hE:=(jA (f:=f) (l:=s.data.toList) (fin:=fin) (next:=next) (sum:=sum) (.inr (.inr (by rw[←HA.out,←HU.out];exact Int.ofNat.inj (jn h7))))).symm.trans hM;have HE:=ae hE;clear hE hM;go_wp2_with fail;go_ret2;exact nt HE.symm ox
   ·have hE:=(jA (f:=f) (l:=s.data.toList) (fin:=fin) (next:=next) (sum:=sum) (.inr (.inl (by rw[←HA.out,←HU.out];exact mR aA)))).symm.trans hM;have HE:=ae hE;clear hE hM;go_wp2_with fail;go_ret2;exact nt HE.symm ox
  ·have hE:=(jA (f:=f) (l:=s.data.toList) (fin:=fin) (next:=next) (sum:=sum) (.inl (by rw[←HA.out];exact Int.ofNat.inj (jn hq)))).symm.trans hM;have HE:=ae hE;clear hE hM;go_wp2_with fail;go_ret2;exact nt HE.symm ox
theorem JV (s:ByteArray) (w:World) (hs:s.size≤281474976710656):Calls prog 158 #[.string s] w fun e w'=>e= .returned (.int .i64 (aX s.data.toList:Nat))∧Below w.heap.size w w':=by
 go_enter func158,ntmps158;go_wp2_with fail;refine(wK s _ hs).mono ?_;rintro e w1 ⟨rfl,hb⟩;go_wp2_with fail;go_ret;exact⟨rfl,hb⟩
theorem Cb (s:ByteArray) (w:World):Calls prog 159 #[.string s] w (Two w (bz s.data.toList)):=by
 by_cases hl:64<s.size
 ·have hE:bz s.data.toList=(0,1):=by rw[bz,az (by rw[af];exact hl)]
  go_enter func159,ntmps159;go_wp2_with fail;go_ret2;exact nt hE (aU _ _)
 ·obtain⟨r,hr⟩: ∃r,r=measure s.data.toList:=⟨_,rfl⟩;obtain⟨fin,sum⟩:=r;have hE:bz s.data.toList=if fin=0∨fin<s.size then(0,30)else if 315360000000000<sum then(0,31)else(sum,0):=by
   rw[bz,ah (by rw[af];exact hl),←hr,af]
  have HE:=ae hE;have HR:=ae hr;clear hE hr;go_enter func159,ntmps159;go_wp2_with fail;refine(wK s _ (by omega)).mono ?_;rintro e w1 ⟨rfl,hb⟩;rw[←HR.out];have HB:=ae hb;clear hb;simp only;cases h0:((fin:Int)==0)
  ·cases h1:decide (fin<s.size)
   ·cases h2:decide ((315360000000000:Int)<(sum:Int))
    ·have hR:bz s.data.toList=(sum,0):=by
      rw[HE.out,ah (by have:=kE h0;have:=sX h1;omega),ah (by have:=sX h2;omega)]
     have yf:=ae hR;clear hR;go_wp2_with fail;go_ret2;exact nt yf HB
    ·have hR:bz s.data.toList=(0,31):=by
      rw[HE.out,ah (by have:=kE h0;have:=sX h1;omega),az (by have:=mR h2;omega)]
     have yf:=ae hR;clear hR;go_wp2_with fail;go_ret2;exact nt yf HB
   ·have hR:bz s.data.toList=(0,30):=by
     rw[HE.out,az (.inr (mR h1))]
    have yf:=ae hR;clear hR;go_wp2_with fail;go_ret2;exact nt yf HB
  ·have hR:bz s.data.toList=(0,30):=by
    rw[HE.out,az (.inl (by have:=jn h0;omega))]
   have yf:=ae hR;clear hR;go_wp2_with fail;go_ret2;exact nt yf HB
theorem oK (c:UInt8) (w:World):
  Calls prog 165 #[.int .u8 (c.toNat:Int)] w fun e w'=>e= .returned (.bool (digit c))∧w=w':=by
 go_enter func165,ntmps165;go_wp2
 all_goals (go_ret;exact⟨ar (by rw[eo];simp[digit];omega),rfl⟩)
theorem Gf (c:UInt8) (w:World):
  Calls prog 163 #[.int .u8 (c.toNat:Int)] w fun e w'=>e= .returned (.bool (gO c))∧w=w':=by
 go_enter func163,ntmps163;cases hd:digit c
 all_goals
  go_wp2_with fail;refine(oK _ _).mono ?_;rintro e w' ⟨rfl,rfl⟩;rw[hd];go_wp2_with fail
 all_goals (go_ret;exact⟨ar (by rw[eo];simp[gO,hd];try omega),rfl⟩)
theorem mM (s:ByteArray) (x:Int) (i:Nat) (hx:x=(i:Int)) (w:World) (hs:s.size≤281474976710656) (hi:i≤281474976710656):
  Calls prog 164 #[.string s,.int .i64 x,.func (.func 165) #[] #[]] w fun e w'=>e= .returned (.int .i64 (ag digit s.data.toList i:Nat))∧w=w':=by
 subst hx;go_enter func164,ntmps164;go_wp2_with fail;go_loop [1] (fun t=> ∃k:Nat,k≤562949953421312∧t= .int .i64 k∧Hid (ag digit s.data.toList k=ag digit s.data.toList i)) (fun t=>s.size-(intOf t).toNat)
 case atStart=>exact⟨i,by omega,rfl,rfl⟩
 case round=>
  obtain⟨k,hk,rfl,gM⟩:=hrel;by_cases aA:k<s.size
  ·cases hd:digit s[k]
   all_goals
    go_wp2_with (go_at_call 165;refine(oK _ _).mono ?_;rintro e w' ⟨rfl,rfl⟩)
   ·go_ret;exact⟨aH (by rw[←gM.out,gA aA hd]),rfl⟩
   ·go_round
    case rel=>exact⟨k+1,by omega,by go_num,(gz aA hd).trans gM.out⟩
    case measure=>simp[intOf];omega
  ·go_wp2_with fail;go_ret;exact⟨aH (by rw[←gM.out,bP (by simpa using aA)]),rfl⟩
theorem JW (s:ByteArray) (x:Int) (i:Nat) (hx:x=(i:Int)) (w:World) (hs:s.size≤281474976710656) (hi:i≤281474976710656):
  Calls prog 164 #[.string s,.int .i64 x,.func (.func 163) #[] #[]] w fun e w'=>e= .returned (.int .i64 (ag gO s.data.toList i:Nat))∧w=w':=by
 subst hx;go_enter func164,ntmps164;go_wp2_with fail;go_loop [1] (fun t=> ∃k:Nat,k≤562949953421312∧t= .int .i64 k∧Hid (ag gO s.data.toList k=ag gO s.data.toList i)) (fun t=>s.size-(intOf t).toNat)
 case atStart=>exact⟨i,by omega,rfl,rfl⟩
 case round=>
  obtain⟨k,hk,rfl,gM⟩:=hrel;by_cases aA:k<s.size
  ·cases hd:gO s[k]
   all_goals
    go_wp2_with (go_at_call 163;refine(Gf _ _).mono ?_;rintro e w' ⟨rfl,rfl⟩)
   ·go_ret;exact⟨aH (by rw[←gM.out,gA aA hd]),rfl⟩
   ·go_round
    case rel=>exact⟨k+1,by omega,by go_num,(gz aA hd).trans gM.out⟩
    case measure=>simp[intOf];omega
  ·go_wp2_with fail;go_ret;exact⟨aH (by rw[←gM.out,bP (by simpa using aA)]),rfl⟩
theorem pY (s:ByteArray) (x:Int) (i:Nat) (hx:x=(i:Int)) (w:World) (hs:s.size≤281474976710656) (hi:i≤s.size):
  Calls prog 166 #[.string s,.int .i64 x] w fun e w'=>e= .returned (.int .i64 (cU s.data.toList i:Nat))∧w=w':=by
 subst hx;by_cases ho:i=s.size
 ·have hE:=Mt (s:=s) (i:=i) (by omega);subst ho;go_enter func166,ntmps166;go_wp2_with fail;go_ret;exact⟨aH (by rw[hE]),rfl⟩
 ·have aA:i<s.size:=by omega
  have bW:((i:Int)==(s.size:Int))=false:=by rw[bN];omega
  by_cases hEE:(s[i].toNat:Int)=101∨(s[i].toNat:Int)=69
  ·have hj: ∃j,dG s.data.toList i=j∧Hid ((∃h:i+1<s.size,j=i+2∧((((s[i+1].toNat:Int)==43)=true)∨(((s[i+1].toNat:Int)==43)=false∧((s[i+1].toNat:Int)==45)=true)))∨(∃h:i+1<s.size,j=i+1∧((s[i+1].toNat:Int)==43)=false∧((s[i+1].toNat:Int)==45)=false)∨(¬i+1<s.size∧j=i+1)):=by
    refine⟨_,rfl,ae ?_⟩;by_cases h:i+1<s.size
    ·cases h1:((s[i+1].toNat:Int)==43)
     ·cases h2:((s[i+1].toNat:Int)==45)
      ·exact .inr (.inl ⟨h,I0 (fun _=>⟨kE h1,kE h2⟩),by first|rfl|assumption,by first|rfl|assumption⟩)
      ·exact .inl ⟨h,IZ h (.inr (jn h2)),.inr ⟨by first|rfl|assumption,by first|rfl|assumption⟩⟩
     ·exact .inl ⟨h,IZ h (.inl (jn h1)),.inl (by first|rfl|assumption)⟩
    ·exact .inr (.inr ⟨h,I0 (fun h'=>absurd h' h)⟩)
   obtain⟨j,hj,hJ⟩:=hj;obtain⟨k,hk⟩: ∃k,k=ag digit s.data.toList j:=⟨_,rfl⟩;have hjb:=nE s.data.toList i (by rw[af];exact aA);rw[hj,af]at hjb;obtain⟨hj1,hj2⟩:=hjb;have hY:=fun h=>Mu aA hEE hj hk.symm h
   have hS:=fun h=>JT hj hk.symm h
   have HK:=ae hk;have HY:=ae hY;have HS:=ae hS;clear hk hY hS hj;have Pm:(((s[i].toNat:Int) != 101)=false)∨(((s[i].toNat:Int) != 101)=true∧((s[i].toNat:Int) != 69)=false):=by
    rcases hEE with h|h<;>rw[h]<;>simp
   clear hEE;rcases Pm with Pm|⟨Pm,hE2⟩
   all_goals
    rcases hJ.out with⟨h,rfl,hp|⟨hp,Ai⟩⟩|⟨h,rfl,hp,Ai⟩|⟨h,rfl⟩
    all_goals
     clear hJ;go_enter func166,ntmps166;go_wp2_with fail
     first
      |refine(mM s _ (i+1) (by omega) _ hs (by omega)).mono ?_
      |refine(mM s _ (i+2) (by omega) _ hs (by omega)).mono ?_
     rintro e w1 ⟨rfl,rfl⟩;rw[←HK.out];go_wp2_with fail
     all_goals
      go_ret
      first
       |exact⟨aH (by rw[HY.out (by omega)]),rfl⟩
       |exact⟨aH (by rw[HS.out (by omega)]),rfl⟩
  ·have h1:((s[i].toNat:Int) != 101)=true:=by rw[jo];omega
   have h2:((s[i].toNat:Int) != 69)=true:=by rw[jo];omega
   have hE:=Qc aA (by omega) (by omega);clear hEE;go_enter func166,ntmps166;go_wp2_with fail;go_ret;exact⟨aH (by rw[hE]),rfl⟩
theorem CN (s:ByteArray) (w:World) (hs:s.size≤281474976710656) (hh:aR s.data.toList=true):
  Calls prog 157 #[.string s] w fun e w'=>e= .returned (.int .i64 (an s.data.toList:Nat))∧w=w':=by
 have hE:an s.data.toList=ag gO s.data.toList 2:=by rw[an,az hh]
 obtain⟨h2,h0,hx,h1⟩:=Yf hh;have HE:=ae hE;clear hE hh;rcases h1 with h1|⟨h1,h1'⟩
 all_goals
  go_enter func157,ntmps157;go_wp2_with fail;refine(Gf _ _).mono ?_;rintro e w' ⟨rfl,rfl⟩;rw[hx];go_wp2_with fail;refine(JW s _ 2 rfl _ hs (by omega)).mono ?_;rintro e w' ⟨rfl,rfl⟩;go_wp2_with fail;go_ret;exact⟨aH (by rw[HE.out]),rfl⟩
theorem CO (s : ByteArray) (w : World) (hs : s.size ≤ 281474976710656) (hh : aR s.data.toList = false) :
    Calls prog 157 #[.string s] w fun e w'=>e= .returned (.int .i64 (an s.data.toList:Nat))∧w=w':=by
  have hN:=abF hh
  have HH:=ae hh
  clear hh
  obtain⟨k,hk⟩: ∃k,ag digit s.data.toList 0=k:=⟨_,rfl⟩
  have jJ:=bK digit s.data.toList 0 (aV _)
  rw[hk,af]at jJ
  have HK:=ae hk
  clear hk
  rcases hN with h|⟨h,h1|⟨h1,⟨h2,h3⟩|⟨h2,h3⟩|⟨h2,h3,h4⟩⟩⟩
  all_goals
    go_enter func157,ntmps157
    go_wp2_with (go_at_call 163;refine(Gf _ _).mono ?_;rintro e w' ⟨rfl,rfl⟩)
    refine(mM s _ 0 rfl _ hs (by omega)).mono ?_
    rintro e w' ⟨rfl,rfl⟩
    rw[HK.out]
    go_wp2_with fail
  all_goals try
    (refine (oK _ _).mono ?_
     rintro e w' ⟨rfl,rfl⟩
     cases hd:digit s[1]
     all_goals go_wp2_with fail)
  all_goals first
    | (have hE := afK HH.out (HK.out.trans (by omega)) (by intro h h'; first | omega | (simp_all; done))
       go_ret
       exact⟨aH (by rw[hE];rfl),rfl⟩)
    | (have hE := afJ HH.out HK.out (by omega) (by intro h; first | omega | (simp_all; done))
       refine(pY s _ k (by omega) _ hs (by omega)).mono ?_
       rintro e w' ⟨rfl,rfl⟩
       have HE:=ae hE
       clear hE
       go_wp2_with fail
       go_ret
       exact⟨aH (by rw[HE.out]),rfl⟩)
    | (have hE := afH HH.out HK.out (by omega) (by first | assumption | (simp_all; done)) (by omega)
       refine(mM s _ (k+1) (by omega) _ hs (by omega)).mono ?_
       rintro e w' ⟨rfl,rfl⟩
       have h1:=aW digit s.data.toList (k+1)
       have h2:=bK digit s.data.toList (k+1) (by rw[af];omega)
       rw[af]at h2
       generalize ag digit s.data.toList (k+1)=m at h1 h2 hE ⊢
       have HE:=ae hE
       have hm:((m:Int)==0)=false:=by rw[bN];omega
       clear hE
       go_wp2_with fail
       refine(pY s _ m rfl _ hs (by omega)).mono ?_
       rintro e w' ⟨rfl,rfl⟩
       go_wp2_with fail
       go_ret
       exact⟨aH (by rw[HE.out]),rfl⟩)
    | (have hE := afI HH.out (HK.out.trans (by omega)) (by omega) (by first | assumption | (simp_all; done)) hd
       refine(mM s _ 1 (by omega) _ hs (by omega)).mono ?_
       rintro e w' ⟨rfl,rfl⟩
       have h1:=aW digit s.data.toList 1
       have h2:=bK digit s.data.toList 1 (by rw[af];omega)
       rw[af]at h2
       generalize ag digit s.data.toList 1=m at h1 h2 hE ⊢
       have HE:=ae hE
       have hm:((m:Int)==0)=false:=by rw[bN];omega
       clear hE
       go_wp2_with fail
       refine(pY s _ m rfl _ hs (by omega)).mono ?_
       rintro e w' ⟨rfl,rfl⟩
       go_wp2_with fail
       go_ret
       exact⟨aH (by rw[HE.out]),rfl⟩)
theorem Cc (s:ByteArray) (w:World) (hs:s.size≤281474976710656):
  Calls prog 157 #[.string s] w fun e w'=>e= .returned (.int .i64 (an s.data.toList:Nat))∧w=w':=by
 cases hh:aR s.data.toList
 ·exact CO s w hs hh
 ·exact CN s w hs hh
theorem vY (h:dI q l=some (b,n)):1≤n∧n≤l.length∧b.length≤n:=by
 have XN: ∀{l:List UInt8} {n base r:Nat},fh l n base=some r→n≤l.length:=by
  intro l n base r h;unfold fh at h;split at h
  ·simp at h
  ·omega
 cases l with
 |nil=>simp[dI]at h
 |cons c r=>
  simp only[dI]at h;split at h
  ·simp only[yp,vw]at h;obtain⟨rfl,rfl⟩:=h;simp
  ·split at h
   ·simp only[yp,vw]at h;obtain⟨rfl,rfl⟩:=h;simp
   ·split at h
    ·obtain⟨V,hV,h2⟩:=xe.1 h;simp only[vw]at h2;obtain⟨rfl,rfl⟩:=h2;have:=XN hV;simp;omega
    ·split at h
     ·obtain⟨V,hV,h2⟩:=Ob.1 h;split at h2
      ·simp only[yp,vw]at h2;obtain⟨rfl,rfl⟩:=h2;have:=XN hV;have:=xD V;simp;omega
      ·simp at h2
     ·split at h
      ·obtain⟨V,hV,h2⟩:=Ob.1 h;split at h2
       ·simp only[yp,vw]at h2;obtain⟨rfl,rfl⟩:=h2;have:=XN hV;have:=xD V;simp;omega
       ·simp at h2
      ·obtain⟨V,hV,h2⟩:=Ob.1 h;split at h2
       ·simp only[yp,vw]at h2;obtain⟨rfl,rfl⟩:=h2;have:=XN hV;simp at*;omega
       ·simp at h2
theorem kc (q : UInt8) : ∀ (f g : Nat) (l : List UInt8), l.length ≤ f → l.length ≤ g → kN q f l = kN q g l
  | 0, 0, l, _, _ => rfl
  | 0, g + 1, l, h, _ => by
    have:l=[]:=Ia (by omega)
    subst this;rfl
  | f + 1, 0, l, _, h => by
    have:l=[]:=Ia (by omega)
    subst this;rfl
  | f + 1, g + 1, l, hf, hg => by
    cases l with
    | nil => rfl
    | cons c r =>
      simp only[kN]
      simp only[ek]at hf hg
      split
      · rw [kc q f g r (by omega) (by omega)]
      · cases he : dI q r with
        | none => rfl
        | some p =>
          obtain⟨b,n⟩:=p
          have:=vY he
          simp only
          rw[kc q f g (r.drop n) (by simp;omega) (by simp;omega)]
def ot (q:UInt8) (I:List UInt8) (k:Nat) (bs:List UInt8):Option (List UInt8):=(kN q I.length (I.drop k)).map (bs++ ·)
theorem I3 (h:I.length≤k):ot q I k bs=some bs:=by
 rw[ot,tY h];cases I.length<;>simp[kN]
theorem Cd (h:k<I.length) (hc:au I k≠92):ot q I (k+1) (bs++[au I k])=ot q I k bs:=by
 rw[ot,ot,drop_at h];obtain⟨f,hf⟩: ∃f,I.length=f+1:=⟨I.length-1,by omega⟩;rw[hf,kN,az hc,kc q (f+1) f (I.drop (k+1)) (by simp;omega) (by simp;omega)];cases kN q f (I.drop (k+1))<;>simp
theorem EL (h:k<I.length) (hc:au I k=92) (he:dI q (I.drop (k+1))=none):ot q I k bs=none:=by
 rw[ot,drop_at h];obtain⟨f,hf⟩: ∃f,I.length=f+1:=⟨I.length-1,by omega⟩;rw[hf,kN,ah (by simp[hc]),he];rfl
theorem I4 (h:k<I.length) (hc:au I k=92) (he:dI q (I.drop (k+1))=some (b,n)):ot q I (k+1+n) (bs++b)=ot q I k bs:=by
 have hn:=vY he;rw[ot,ot,drop_at h];obtain⟨f,hf⟩: ∃f,I.length=f+1:=⟨I.length-1,by omega⟩;rw[hf,kN,ah (by simp[hc]),he];simp only;rw[yz,kc q (f+1) f (I.drop (k+1+n)) (by simp;omega) (by simp;omega)];cases kN q f (I.drop (k+1+n))<;>simp
theorem Qj (h:dI q l=none):qQ q l=([],0):=by rw[qQ,h];rfl
theorem Qk (h:dI q l=some (b,n)):qQ q l=(b,n):=by rw[qQ,h];rfl
def inside (l:List UInt8):List UInt8:=(l.drop 1).take (l.length-2)
theorem xG (s:ByteArray):(s.extract 1 (s.size-1)).data.toList=inside s.data.toList:=by
 rw[Lib.extract_data,inside,af,show s.size-1-1=s.size-2 by omega]
theorem dT {w:World} (h:w.ownsRow base e 1 v k (cellsOf l)) (src dst:TypeId) (hs:P.underlying src=some (.slice e)) (he:P.underlying e=some (.int .u8)) (hd:P.underlying dst=some .string):
  (convert src dst v).run P w= .ok (.string ⟨l.toArray⟩) w:=by
 have hl:l.length=k:=by have:=h.1;simpa [cellsOf]using this
 rcases h.2 with⟨rfl,hk⟩|⟨g,cap,cur,rfl,_⟩
 ·have:l=[]:=Ia (by omega);subst this;exact run_convert_bytes_nil w src e hs he 0 0 dst hd
 ·exact nW (rU h) src dst e k cap hl.symm hs he hd
def ku (w:World) (r:Nat×List UInt8) (e:Ending) (w':World):Prop:=e= .returned (.tuple #[.string ⟨r.2.toArray⟩,.int .i64 (r.1:Int)])∧Below w.heap.size w w'
theorem zX (s:ByteArray) (w:World) (hs:s.size≤281474976710656) (hv:valid s.data.toList=false):
  Calls prog 150 #[.string s] w (ku w (4,[])):=by
 go_enter func150,ntmps150;go_wp2_with fail;refine(jW s _ hs).mono ?_;rintro e w1 ⟨rfl,hb⟩;rw[hv];have HB:=ae hb;clear hb hv;go_wp2_with fail;go_ret2;exact⟨rfl,HB⟩
theorem xY (s:ByteArray) (w:World) (hs:s.size≤281474976710656) (hv:valid s.data.toList=true) (hl:bC s.data.toList 0≠some s.data.toList.length):
  Calls prog 150 #[.string s] w (ku w (10,[])):=by
 go_enter func150,ntmps150;go_wp2_with fail;refine(jW s _ hs).mono ?_;rintro e w1 ⟨rfl,hb⟩;rw[hv];have HB:=ae hb;have HL:=ae hl;clear hb hv hl;go_wp2_with fail;refine(nF s 0 _ hs).mono ?_;rintro e w2 ⟨rfl,rfl⟩;have hl:=HL.out;clear HL;cases he:bC s.data.toList 0 with
 |none=>
  clear hl;simp only[jN,nS];go_wp2_with fail;go_ret2;exact⟨rfl,HB⟩
 |some n=>
  have hn:n≠s.size:=by rintro rfl;rw[he,af]at hl;exact hl rfl
  have uQ:((n:Int) != (s.size:Int))=true:=by rw[jo];omega
  clear hl hn;simp only[jN,nS];go_wp2_with fail;go_ret2;exact⟨rfl,HB⟩
def xv (T:Option (List UInt8)):Nat×List UInt8:=match T with|none=>(11,[])|some b=>if valid b then(0,b)else(13,[])
theorem iR (h:bC l 0=some l.length):2≤l.length∧dC (au l 0)=true:=by
 unfold bC at h;split at h
 ·rename_i hx;obtain⟨n,hn,xd⟩:=xe.1 h;have: ∀(q:UInt8) (l:List UInt8) (n:Nat),eI q l=some n→1≤n:=by
   intro q l n h;cases l with
   |nil=>simp[eI]at h
   |cons c r=>
    cases r with
    |nil=>simp only[eI]at h;split at h<;>simp at h;omega
    |cons d r=>
     simp only[eI]at h
     repeat' split at h
     all_goals first|(simp at h;done)|(simp at h;omega)|skip
  have:=this _ _ _ hn;exact⟨by omega,hx.2⟩
 ·simp at h
theorem zY (s:ByteArray) (w:World) (hs:s.size≤281474976710) (hv:valid s.data.toList=true) (hl:bC s.data.toList 0=some s.data.toList.length) (h0:0<s.size) (hq:s[0].toNat=96):
  Calls prog 150 #[.string s] w (ku w (0,inside s.data.toList)):=by
 have h2:=(iR hl).1;rw[af]at hl h2;have hw:IntKind.i64.wrap ((s.size:Int)-1)=(s.size:Int)-1:=by rw[ou];omega
 have uQ:((s.size:Int) != (s.size:Int))=false:=by simp
 go_enter func150,ntmps150;go_wp2_with fail;refine(jW s _ (by omega)).mono ?_;rintro e w1 ⟨rfl,hb⟩;rw[hv];have HB:=ae hb;have HL:=ae hl;have HQ:=ae hq;clear hb hv hl hq;go_wp2_with fail;refine(nF s 0 _ (by omega)).mono ?_;rintro e w2 ⟨rfl,rfl⟩;rw[HL.out];simp only[jN,nS];go_wp2_with fail;go_quiet (fail);have ab1:((s[0].toNat:Int)==96)=true:=by rw[HQ.out];rfl
 go_wp2_with fail;go_ret2;exact⟨by rw[←xG,mk_data];rfl,bZ HB _⟩
theorem zZ (s:ByteArray) (w:World) (hs:s.size≤281474976710) (hv:valid s.data.toList=true) (hl:bC s.data.toList 0=some s.data.toList.length) (h0:0<s.size) (hq:s[0].toNat≠96) (T:Option (List UInt8)) (hT:ot s[0] (inside s.data.toList) 0 []=T):
  Calls prog 150 #[.string s] w (ku w (xv T)):=by
 have h2:=(iR hl).1;rw[af]at hl h2;have hw:IntKind.i64.wrap ((s.size:Int)-1)=(s.size:Int)-1:=by rw[ou];omega
 have uQ:((s.size:Int) != (s.size:Int))=false:=by simp
 go_enter func150,ntmps150;go_wp2_with fail;refine(jW s _ (by omega)).mono ?_;rintro e w1 ⟨rfl,hb⟩;rw[hv];have HL:=ae hl;have HQ:=ae hq;have HT:=ae hT;clear hv hl hq hT;go_wp2_with fail;refine(nF s 0 _ (by omega)).mono ?_;rintro e w2 ⟨rfl,rfl⟩;rw[HL.out];simp only[jN,nS];go_wp2_with fail;go_quiet (fail);have ab1:((s[0].toNat:Int)==96)=false:=by rw[bN];have:=HQ.out;omega
 obtain⟨t,ht⟩: ∃t,t=s.extract 1 (s.size-1):=⟨_,rfl⟩;have qG:t.data.toList=inside s.data.toList:=by rw[ht,xG]
 have KV:t.size≤281474976710:=by
  rw[←af,qG,inside];have:=List.length_take_le (s.data.toList.length-2) (s.data.toList.drop 1);rw[af]at this;rw[af];omega
 rw[←ht];generalize hI:inside s.data.toList=I at HT qG;have HD:=ae qG;clear ht qG hI hw uQ h2;rename_i nq;have aQ:=bZ hb nq;clear hb;generalize w1.drewN nq=w2 at aQ ⊢
 obtain⟨i0,s9,Dg,de,ej⟩:=lF iK;go_wp2_with (at_make;refine wpList_make_own _ rfl (.const (.int .i64 0)) (.tmp 38) 147 rfl w.heap.size 5 i0 (.int .u8 0) 1 underlying147 s9 Dg de _ _ _ t.size rfl rfl rfl (by rw[ej];omega) (by unfold maxLen;omega) aQ.size ?_);intro w3 vG AN;have ε:Below w.heap.size w w3:=aQ.grown AN aQ.size (by simp);have qL:=ae vG;clear s9 Dg de ej vG AN aQ;go_wp2_with fail;go_loopw [8,9] (fun v i wr=> ∃(k:Nat) (bs:List UInt8),k≤t.size∧bs.length≤k∧i= .int .i64 k∧wr.ownsRow w.heap.size 5 1 v bs.length (cellsOf bs)∧Below w.heap.size w wr∧Hid (ot s[0] I k bs=T)) (fun _ i _=>t.size-(intOf i).toNat)
 case atStart=>exact⟨0,[],aV _,aS _,rfl,qL,ε,HT⟩
 case round=>
  obtain⟨k,bs,hk,hbs,rfl,aP,bO,hT⟩:=hrel;clear HT qL ε;have hit:I.length=t.size:=by rw[←HD.out,af]
  have HI:=ae hit;clear hit;by_cases aA:k<t.size
  ·have Xb:k<I.length:=by rw[HI.out];exact aA
   have cI:au I k=t[k]:=by rw[←HD.out];exact ay aA
   cases hc:((t[k].toNat:Int) != 92)
   ·have qD:au I k=92:=by rw[cI];exact om (n:=92) (by omega) rfl (by simpa [bne]using hc)
    have oy:(t.extract (k+1) t.size).data.toList=I.drop (k+1):=by rw[fX,HD.out]
    have hex:(t.extract (k+1) t.size).size≤281474976710656:=by simp;omega
    have HX:=ae hex;have HA:=ae cI;cases he:dI s[0] (I.drop (k+1))with
    |none=>
     have Fz:=(EL (bs:=bs) Xb qD he).symm.trans hT;have Ln:=Qj he;rw[←oy]at Ln;have HE:=ae Ln;have Sd:=ae Fz;clear qD oy he Fz Ln cI hex hT;go_wp2_with fail;refine(B9 (t.extract (k+1) t.size) s[0] _ HX _ w.heap.size bs.length bs aP bO.size (by omega)).mono ?_;rintro e w4 ⟨v',rfl,ho,hg⟩;rw[HE.out]at ho ⊢
     have HB:=ae (bO.grown hg bO.size (fun g uU=>(aP.lt g uU).1));clear ho hg aP bO;go_wp2_with fail;go_ret2;exact⟨by rw[←Sd.out];rfl,HB⟩
    |some p=>
     obtain⟨b,n⟩:=p;have hn:=vY he;have Fz:=(I4 (bs:=bs) Xb qD he).trans hT;have Ln:=Qk he;rw[←oy]at Ln;rw[nP,HI.out]at hn;obtain⟨AE,xd,hn3⟩:=hn;have uQ:((n:Int)==0)=false:=by rw[bN];omega
     have HE:=ae Ln;have Sd:=ae Fz;clear qD oy he Fz Ln cI hex hT;go_wp2_with fail;refine(B9 (t.extract (k+1) t.size) s[0] _ HX _ w.heap.size bs.length bs aP bO.size (by omega)).mono ?_;rintro e w4 ⟨v',rfl,ho,hg⟩;rw[HE.out]at ho ⊢
     have HB:=ae (bO.grown hg bO.size (fun g uU=>(aP.lt g uU).1));have HO:=ae ho;clear ho hg aP bO;go_wp2_with fail;go_roundw
     case rel=>exact⟨k+1+n,bs++b,by omega,by rw[iF];omega,by go_num,by rw[iF];exact HO,HB,Sd⟩
     case measure=>simp[intOf];omega
   ·have qD:au I k≠92:=by rw[cI];exact pd (n:=92) (by omega) rfl (by simpa [bne]using hc)
    have Fz:=(Cd (q:=s[0]) (bs:=bs) Xb qD).trans hT;rw[cI]at Fz;have Sd:=ae Fz;clear qD cI Fz hT;go_wp2_with (at_builtin;refine ib rfl (.tmp 50) (.tmp 54) 147 rfl w.heap.size 5 (.int .u8 0) 1 1 iK underlying147 rfl (by omega) _ bs.length _ rfl aP [.int .u8 (t[k].toNat:Int)] rfl rfl (zL rfl) (by unfold maxLen;omega) (by omega) bO.size ?_);intro v' w4 ho hg;have HB:=ae (bO.grown hg bO.size (fun g uU=>(aP.lt g uU).1));have HO:=ae ho;clear ho hg aP bO;go_wp2_with fail;go_roundw
    case rel=>exact⟨k+1,bs++[t[k]],by omega,by simp;omega,by go_num,by rw[fP,iF];exact HO,HB,Sd⟩
    case measure=>simp[intOf];omega
  ·have Se:=(I3 (q:=s[0]) (bs:=bs) (k:=k) (by rw[HI.out];omega)).symm.trans hT;have HTe:=ae Se;have II:=dT (P:=prog) aP 147 9 underlying147 underlying5 underlying9;have iI:(⟨bs.toArray⟩:ByteArray).size≤281474976710656:=by simp[ByteArray.size];omega
   have HS:=ae iI;clear Se hT iI;go_wp2_with fail;refine(jW ⟨bs.toArray⟩ _ HS).mono ?_;rintro e w4 ⟨rfl,fe⟩;have IL:=oI aP fe;have abI:=dT (P:=prog) IL 147 9 underlying147 underlying5 underlying9;have HB:=ae (bO.trans (fe.mono bO.size));clear aP IL bO fe II;rw[show ((⟨bs.toArray⟩:ByteArray).data.toList)=bs from by simp];cases Xc:valid bs
   ·have HV:=ae Xc;clear Xc;go_wp2_with fail;go_ret2;exact⟨by rw[←HTe.out,xv];simp[HV.out],HB⟩
   ·have HV:=ae Xc;clear Xc;go_wp2_with fail;go_ret2;exact⟨by rw[←HTe.out,xv];simp[HV.out],HB⟩
theorem uu (h:2≤l.length):(inside l).length=l.length-2:=by
 rw[inside,nO,nP];omega
theorem JX (s:ByteArray) (w:World) (hs:s.size≤281474976710):
  Calls prog 150 #[.string s] w (ku w (lM s.data.toList)):=by
 unfold lM;cases hv:valid s.data.toList
 ·rw[az rfl];exact zX s w (by omega) hv
 ·rw[ah (by simp)];by_cases hl:bC s.data.toList 0=some s.data.toList.length
  ·rw[ah (by simpa using hl)];have h2:=(iR hl).1;have h0:0<s.size:=by rw[af]at h2;omega
   have cI:=ay h0;rw[cI];by_cases hq:s[0]=96
   ·rw[az hq];exact zY s w hs hv hl h0 (by rw[hq];rfl)
   ·rw[ah hq];have hq':s[0].toNat≠96:=fun e=>hq (cJ (n:=96) (by omega) e)
    have hT:ot s[0] (inside s.data.toList) 0 []=kN s[0] s.data.toList.length (inside s.data.toList):=by
     rw[ot,mT,kc s[0] (inside s.data.toList).length s.data.toList.length _ (aS _) (by rw[uu h2];omega)];cases kN s[0] s.data.toList.length (inside s.data.toList)<;>simp
    exact zZ s w hs hv hl h0 hq' _ hT
  ·rw[az hl];exact xY s w (by omega) hv hl
theorem Oz (h:r<F):F-(intOf (.int .i64 ((r:Int)+1))).toNat<F-(intOf (.int .i64 (r:Int))).toNat:=by
 have h1:(intOf (.int .i64 ((r:Int)+1))).toNat=r+1:=rfl;have h2:(intOf (.int .i64 (r:Int))).toNat=r:=rfl;rw[h1,h2];exact Nat.sub_lt_sub_left h (vu r)
theorem ic {fn:Func} {a b c:Tmp} (h:fn.results= #[.tmp a,.tmp b,.tmp c]) (tmps:Array Value) (P:Program) (w:World):
  (results fn tmps).run P w= .ok (.tuple #[tmps.getD a undef,tmps.getD b undef,tmps.getD c undef]) w:=by
 simp[results,h]
theorem Ce {P:UInt8→Prop} (h: ∀n:Fin 256,P (UInt8.ofNat n.val)) (c:UInt8):P c:=by
 have:=h ⟨c.toNat,c.toNat_lt⟩;simpa using this
theorem IM {k:IntKind} {a b:Int} (h:a=b):Value.int k a=Value.int k b:=by rw[h]
theorem Ql (c:UInt8) (w:World):
  Calls prog 136 #[.int .u8 (c.toNat:Int)] w fun e w'=>e= .returned (.bool (digit c))∧w=w':=by
 go_enter func136,ntmps136;go_wp2
 all_goals (go_ret;exact⟨ar (by rw[eo];simp[digit];omega),rfl⟩)
theorem OA (s:ByteArray) (i:Nat) (w:World) (hs:s.size≤281474976710656) (hi:i≤281474976710656):
  Calls prog 121 #[.string s,.int .i64 (i:Int)] w fun e w'=>e= .returned (.int .i64 (ag digit s.data.toList i:Nat))∧w=w':=by
 go_enter func121,ntmps121;go_wp2_with fail;go_loop [1] (fun t=> ∃k:Nat,k≤562949953421312∧t= .int .i64 k∧Hid (ag digit s.data.toList k=ag digit s.data.toList i)) (fun t=>s.size-(intOf t).toNat)
 case atStart=>exact⟨i,by omega,rfl,rfl⟩
 case round=>
  obtain⟨k,hk,rfl,gM⟩:=hrel;by_cases aA:k<s.size
  ·cases hd:digit s[k]
   all_goals
    go_wp2_with (go_at_call 136;refine(Ql _ _).mono ?_;rintro e w' ⟨rfl,rfl⟩;rw[hd])
   ·go_ret;exact⟨aH (by rw[←gM.out,gA aA hd]),rfl⟩
   ·exact⟨⟨k+1,by omega,by go_num,ae ((gz aA hd).trans gM)⟩,Oz aA⟩
  ·go_wp2_with fail;go_ret;exact⟨aH (by rw[←gM.out,bP (by simpa using aA)]),rfl⟩
def Pn (u:Nat×Nat) (j:Nat):Value:=if u.1=7 then .tuple #[.int .i64 0,.int .i64 0,.int .i64 0]else .tuple #[.int .i64 ((u.2-j:Nat):Int),.int .i64 (dh u.1:Int),.int .i64 ((u.1+1:Nat):Int)]
theorem I5 (s:ByteArray) (i:Nat) (w:World) (hs:s.size≤281474976710656) (hi:i≤281474976710656):
  Calls prog 122 #[.string s,.int .i64 (i:Int)] w fun e w'=>e= .returned (Pn (aN s.data.toList i) i)∧w=w':=by
 obtain⟨V,hV⟩: ∃V,V=Pn (aN s.data.toList i) i:=⟨_,rfl⟩;rw[←hV];have HV:=ae hV;clear hV;by_cases aA:i<s.size
 ·have cI:=ay aA;by_cases hm:s[i].toNat=109
  ·have PK:au s.data.toList i=109:=by rw[cI];exact cJ (n:=109) (by omega) hm
   by_cases h2:i+1<s.size
   ·have pg:=ay h2;by_cases h3:s[i+1].toNat=115
    ·have hE:=EK (l:=s.data.toList) (i:=i) (by rw[af];exact h2) PK (by rw[pg];exact cJ (n:=115) (by omega) h3);have FA:Hid (V= .tuple #[.int .i64 2,.int .i64 1,.int .i64 7]):=ae (by rw[HV.out,hE];simp[Pn,dh]);have hc:((s[i].toNat:Int)==109)=true:=cx.2 (by omega);have RQ:((s[i+1].toNat:Int)==115)=true:=cx.2 (by omega);clear hE PK cI pg HV hm h3;go_enter func122,ntmps122;go_wp2_with fail;refine cB (ic rfl _ _ _) rfl ?_;exact⟨by rw[FA.out];rfl,rfl⟩
    ·have hE:=gW (l:=s.data.toList) (i:=i) (k:=4) (by rw[af];exact aA) (by rintro⟨_,_,h⟩;rw[pg]at h;rw[h]at h3;exact h3 rfl) (by omega) (by rw[PK];rfl);have FA:Hid (V= .tuple #[.int .i64 1,.int .i64 60000,.int .i64 5]):=ae (by rw[HV.out,hE];simp[Pn,dh]);have hc:((s[i].toNat:Int)==109)=true:=cx.2 (by omega);have RQ:((s[i+1].toNat:Int)==115)=false:=bN.2 (by omega);clear hE PK cI pg HV hm h3;go_enter func122,ntmps122;go_wp2_with fail;refine cB (ic rfl _ _ _) rfl ?_;exact⟨by rw[FA.out];rfl,rfl⟩
   ·have hE:=gW (l:=s.data.toList) (i:=i) (k:=4) (by rw[af];exact aA) (by rintro⟨_,h,_⟩;rw[af]at h;exact h2 h) (by omega) (by rw[PK];rfl);have FA:Hid (V= .tuple #[.int .i64 1,.int .i64 60000,.int .i64 5]):=ae (by rw[HV.out,hE];simp[Pn,dh]);have hc:((s[i].toNat:Int)==109)=true:=cx.2 (by omega);clear hE PK cI HV hm;go_enter func122,ntmps122;go_wp2_with fail;refine cB (ic rfl _ _ _) rfl ?_;exact⟨by rw[FA.out];rfl,rfl⟩
  ·have hn: ¬(au s.data.toList i=109∧i+1<s.data.toList.length∧au s.data.toList (i+1)=115):=by
    rintro⟨h,_⟩;rw[cI]at h;exact hm (by rw[h];rfl)
   have hc4:((s[i].toNat:Int)==109)=false:=bN.2 (by omega);by_cases hk:s[i].toNat=121∨s[i].toNat=119∨s[i].toNat=100∨s[i].toNat=104∨s[i].toNat=115
   ·rcases hk with hk|hk|hk|hk|hk
    ·have hE:=gW (l:=s.data.toList) (i:=i) (k:=0) (by rw[af];exact aA) hn (by omega) (by rw[cI];exact(cJ (n:=121) (by omega) hk).symm);have FA:Hid (V= .tuple #[.int .i64 1,.int .i64 31536000000,.int .i64 1]):=ae (by rw[HV.out,hE];simp[Pn,dh]);have Sf:((s[i].toNat:Int)==121)=true:=cx.2 (by omega);clear hE cI HV hm hk hn;go_enter func122,ntmps122;go_wp2_with fail;refine cB (ic rfl _ _ _) rfl ?_;exact⟨by rw[FA.out];rfl,rfl⟩
    ·have hE:=gW (l:=s.data.toList) (i:=i) (k:=1) (by rw[af];exact aA) hn (by omega) (by rw[cI];exact(cJ (n:=119) (by omega) hk).symm);have FA:Hid (V= .tuple #[.int .i64 1,.int .i64 604800000,.int .i64 2]):=ae (by rw[HV.out,hE];simp[Pn,dh]);have Sf:((s[i].toNat:Int)==121)=false:=bN.2 (by omega);have jK:((s[i].toNat:Int)==119)=true:=cx.2 (by omega);clear hE cI HV hm hk hn;go_enter func122,ntmps122;go_wp2_with fail;refine cB (ic rfl _ _ _) rfl ?_;exact⟨by rw[FA.out];rfl,rfl⟩
    ·have hE:=gW (l:=s.data.toList) (i:=i) (k:=2) (by rw[af];exact aA) hn (by omega) (by rw[cI];exact(cJ (n:=100) (by omega) hk).symm);have FA:Hid (V= .tuple #[.int .i64 1,.int .i64 86400000,.int .i64 3]):=ae (by rw[HV.out,hE];simp[Pn,dh]);have Sf:((s[i].toNat:Int)==121)=false:=bN.2 (by omega);have jK:((s[i].toNat:Int)==119)=false:=bN.2 (by omega);have ko:((s[i].toNat:Int)==100)=true:=cx.2 (by omega);clear hE cI HV hm hk hn;go_enter func122,ntmps122;go_wp2_with fail;refine cB (ic rfl _ _ _) rfl ?_;exact⟨by rw[FA.out];rfl,rfl⟩
    ·have hE:=gW (l:=s.data.toList) (i:=i) (k:=3) (by rw[af];exact aA) hn (by omega) (by rw[cI];exact(cJ (n:=104) (by omega) hk).symm);have FA:Hid (V= .tuple #[.int .i64 1,.int .i64 3600000,.int .i64 4]):=ae (by rw[HV.out,hE];simp[Pn,dh]);have Sf:((s[i].toNat:Int)==121)=false:=bN.2 (by omega);have jK:((s[i].toNat:Int)==119)=false:=bN.2 (by omega);have ko:((s[i].toNat:Int)==100)=false:=bN.2 (by omega);have RQ:((s[i].toNat:Int)==104)=true:=cx.2 (by omega);clear hE cI HV hm hk hn;go_enter func122,ntmps122;go_wp2_with fail;refine cB (ic rfl _ _ _) rfl ?_;exact⟨by rw[FA.out];rfl,rfl⟩
    ·have hE:=gW (l:=s.data.toList) (i:=i) (k:=5) (by rw[af];exact aA) hn (by omega) (by rw[cI];exact(cJ (n:=115) (by omega) hk).symm);have FA:Hid (V= .tuple #[.int .i64 1,.int .i64 1000,.int .i64 6]):=ae (by rw[HV.out,hE];simp[Pn,dh]);have Sf:((s[i].toNat:Int)==121)=false:=bN.2 (by omega);have jK:((s[i].toNat:Int)==119)=false:=bN.2 (by omega);have ko:((s[i].toNat:Int)==100)=false:=bN.2 (by omega);have RQ:((s[i].toNat:Int)==104)=false:=bN.2 (by omega);have hc5:((s[i].toNat:Int)==115)=true:=cx.2 (by omega);clear hE cI HV hm hk hn;go_enter func122,ntmps122;go_wp2_with fail;refine cB (ic rfl _ _ _) rfl ?_;exact⟨by rw[FA.out];rfl,rfl⟩
   ·have hE:=yQ (l:=s.data.toList) (i:=i) (by rw[af];exact aA) hn (by
     intro k hk6 he;rw[cI]at he;rw[←he]at hk hm;revert hk hm
     match k,hk6 with
     |0,_|1,_|2,_|3,_|4,_|5,_=>decide)
    have FA:Hid (V= .tuple #[.int .i64 0,.int .i64 0,.int .i64 0]):=ae (by rw[HV.out,hE];rfl);have Sf:((s[i].toNat:Int)==121)=false:=bN.2 (by omega);have jK:((s[i].toNat:Int)==119)=false:=bN.2 (by omega);have ko:((s[i].toNat:Int)==100)=false:=bN.2 (by omega);have RQ:((s[i].toNat:Int)==104)=false:=bN.2 (by omega);have hc5:((s[i].toNat:Int)==115)=false:=bN.2 (by omega);clear hE cI HV hm hk hn;go_enter func122,ntmps122;go_wp2_with fail;refine cB (ic rfl _ _ _) rfl ?_;exact⟨by rw[FA.out];rfl,rfl⟩
 ·have hE:=Ca (l:=s.data.toList) (i:=i) (by rw[af];omega);have FA:Hid (V= .tuple #[.int .i64 0,.int .i64 0,.int .i64 0]):=ae (by rw[HV.out,hE];rfl);clear hE HV;go_enter func122,ntmps122;go_wp2_with fail;refine cB (ic rfl _ _ _) rfl ?_;exact⟨by rw[FA.out];rfl,rfl⟩
def manyN (l:List UInt8) (E:Nat):Nat:=if 315360000000000/E<sat l then 315360000000001 else sat l*E
theorem I6: ∀(l:List UInt8) (n:Nat),n≤315360000000001→n≤ql n l
 |[],_,_=>aS _
 |c::r,n,h=>by
  rw[pO];have h1:=I6 r (iL n c) (ur n c);have h2:n≤iL n c:=by unfold iL;omega
  omega
theorem Uy (s:ByteArray) (E:Nat) (w:World) (hs:s.size≤281474976710656) (Pm:1≤E) (hE2:E≤31536000000) (hd: ∀k (h:k<s.size),48≤s[k].toNat∧s[k].toNat≤57):
  Calls prog 125 #[.string s,.int .i64 (E:Int)] w fun e w'=>e= .returned (.int .i64 (manyN s.data.toList E:Nat))∧w=w':=by
 have HD:=ae hd;obtain⟨V,hV⟩: ∃V,V=manyN s.data.toList E:=⟨_,rfl⟩;rw[←hV];have HV:=ae hV;obtain⟨q,hq⟩: ∃q,q=315360000000000/E:=⟨_,rfl⟩;have D4:q≤315360000000000:=by rw[hq];exact Nat.div_le_self _ _
 have tS:q*E≤315360000000000:=by rw[hq];exact Iu _ _
 have Wq:(315360000000000:Int)/(E:Int)=(q:Int):=by rw[hq,Int.natCast_ediv];rfl
 have Dg:((E:Int)==0)=false:=by rw[bN];omega
 have HQ:=ae hq;have HQ2:=ae tS;clear hd hV hq tS;go_enter func125,ntmps125;go_wp2_with fail;go_loop [5,6] (fun v i=> ∃k n:Nat,k≤s.size∧i= .int .i64 k∧v= .int .i64 n∧n≤q∧Hid (ql n (s.data.toList.drop k)=sat s.data.toList)) (fun _ i=>s.size-(intOf i).toNat)
 case atStart=>exact⟨0,0,aV _,by go_num,by go_num,by omega,ae (by rw[mT,sat])⟩
 case round=>
  obtain⟨k,n,hk,rfl,rfl,hn,gM⟩:=hrel;by_cases aA:k<s.size
  ·have dy:ql (iL n s[k]) (s.data.toList.drop (k+1))=sat s.data.toList:=by
    have h1:=drop_at (l:=s.data.toList) (i:=k) (by rw[af];exact aA);rw[ay aA]at h1;exact(pO _ _ _).symm.trans ((cn (ql n) h1).symm.trans gM)
   obtain⟨h1,h2⟩:=HD k aA;have RN:=I6 (s.data.toList.drop (k+1)) (iL n s[k]) (ur n _);rw[dy]at RN;rw[iL]at dy RN;clear gM;by_cases hb:q<n*10+(s[k].toNat-48)
   ·have hVV:V=315360000000001:=by rw[HV.out,manyN,←HQ.out,az (by omega)]
    have HVV:=ae hVV;have hB:((q:Int)<(n:Int)*10+((s[k].toNat:Int)-48))=True:=aD (by omega);clear dy hb hVV RN;go_wp2_with fail;go_ret;exact⟨aH (by rw[HVV.out];rfl),rfl⟩
   ·rw[mS (by omega)]at dy;have HS:=ae dy;have hB:((q:Int)<(n:Int)*10+((s[k].toNat:Int)-48))=False:=bT (by omega);clear dy RN;go_wp2_with fail;exact⟨⟨k+1,n*10+(s[k].toNat-48),by omega,by go_num,by go_num,by omega,HS⟩,Oz aA⟩
  ·have dy:sat s.data.toList=n:=by rw[←gM.out,tY (by rw[af];omega)];rfl
   have hVV:V=n*E:=by rw[HV.out,manyN,←HQ.out,dy,ah (by omega)]
   have HVV:=ae hVV;have hmul:n*E≤315360000000000:=bR (fg _ hn) HQ2;have Z6:(n:Int)*(E:Int)≤315360000000000:=by rw[←yw];omega
   have afN:0≤(n:Int)*(E:Int):=by rw[←yw];omega
   clear dy gM hVV hmul;go_wp2_with fail;go_ret;exact⟨aH (by rw[HVV.out,yw]),rfl⟩
def gm (n:Int):List UInt8:=if 0≤n∧bg n.toNat=true then fS n.toNat else[]
def gP (l:List UInt8) (i:Nat) (n0:Int):Nat→Int
 |0=>n0
 |j+1=>gP l i n0 j*64+((au l (i+(j+1))).toNat:Int)-128
def FP (w:Nat):Int:=if w=2 then 192 else if w=3 then 224 else if w=4 then 240 else 0
def jS (l:List UInt8) (i w:Nat):Int:=gP l i (((au l i).toNat:Int)-FP w) (w-1)
theorem ζ (l:List UInt8) (i:Nat): ∀(w:Nat),i+w≤l.length→(l.drop i).take w=(List.range w).map fun j=>au l (i+j)
 |0,_=>by simp
 |w+1,h=>by
  rw[qU,nQ,←ζ l i w (by omega),jO (by simp;omega)]
  congr 1
  simp only[mq,mY,vr];rw[au,lf,lJ (by omega)];rfl
theorem ofNat_eq (h:x<256):UInt8.ofNat x=c↔x=c.toNat:=by
 rw[eq_comm,yC h,eq_comm]
theorem Yi (c:UInt8):gm (c.toNat:Int)=[c]↔c.toNat<128:=by
 have hc:c.toNat<256:=c.toNat_lt;unfold gm fS;simp only[mn];constructor
 ·intro h;rcases dE c.toNat 128 with h1|h1
  ·exact h1
  ·rw[az ⟨by omega,by simp[bg];omega⟩,ah (by omega),az (by omega)]at h;simp at h
 ·intro h;rw[az ⟨by omega,by simp[bg];omega⟩,az h,u6];exact⟨(ofNat_eq hc).2 rfl,rfl⟩
theorem Yj (b c:UInt8):gm (((b.toNat:Int)-192)*64+(c.toNat:Int)-128)=[b,c]↔(194≤b.toNat∧b.toNat≤223∧128≤c.toNat∧c.toNat≤191):=by
 have hb:b.toNat<256:=b.toNat_lt;have hc:c.toNat<256:=c.toNat_lt;obtain⟨n,hn⟩: ∃n:Int,n=((b.toNat:Int)-192)*64+(c.toNat:Int)-128:=⟨_,rfl⟩;rw[←hn];unfold gm;by_cases h0:0≤n∧bg n.toNat=true
 ·rw[az h0];obtain⟨m,rfl⟩: ∃m:Nat,n=m:=⟨n.toNat,by omega⟩;rw[mn]at h0 ⊢
  unfold fS;split
  ·simp;omega
  ·split
   ·rw[u6,u6,ofNat_eq (by omega),ofNat_eq (by omega)];simp only[kJ];constructor
    ·rintro⟨h1,h2⟩;omega
    ·intro h;omega
   ·split
    ·simp;omega
    ·simp;omega
 ·rw[ah h0];simp only[List.nil_eq,reduceCtorEq,false_iff];intro h;refine h0 ⟨by omega,?_⟩;simp[bg];omega
theorem Yk (b c d:UInt8):gm (((((b.toNat:Int)-224)*64+(c.toNat:Int)-128))*64+(d.toNat:Int)-128)=[b,c,d]↔
  (224≤b.toNat∧b.toNat≤239∧128≤c.toNat∧c.toNat≤191∧128≤d.toNat∧d.toNat≤191∧(b.toNat=224→160≤c.toNat)∧(b.toNat=237→c.toNat≤159)):=by
 have hb:b.toNat<256:=b.toNat_lt;have hc:c.toNat<256:=c.toNat_lt;have hd:d.toNat<256:=d.toNat_lt;obtain⟨n,hn⟩: ∃n:Int,n=((((b.toNat:Int)-224)*64+(c.toNat:Int)-128))*64+(d.toNat:Int)-128:=⟨_,rfl⟩;rw[←hn];unfold gm;by_cases h0:0≤n∧bg n.toNat=true
 ·rw[az h0];obtain⟨m,rfl⟩: ∃m:Nat,n=m:=⟨n.toNat,by omega⟩;rw[mn]at h0 ⊢
  have hr:=h0.2;simp[bg]at hr;unfold fS;split
  ·simp;omega
  ·split
   ·simp;omega
   ·split
    ·rw[u6,u6,u6,ofNat_eq (by omega),ofNat_eq (by omega),ofNat_eq (by omega)];simp only[kJ];constructor
     ·rintro⟨h1,h2,h3⟩;omega
     ·intro h;omega
    ·simp;omega
 ·rw[ah h0];simp only[List.nil_eq,reduceCtorEq,false_iff];intro h;refine h0 ⟨by omega,?_⟩;simp[bg];omega
theorem Yl (b c d e:UInt8):gm ((((((b.toNat:Int)-240)*64+(c.toNat:Int)-128))*64+(d.toNat:Int)-128)*64+(e.toNat:Int)-128)=[b,c,d,e]↔
  (240≤b.toNat∧b.toNat≤244∧128≤c.toNat∧c.toNat≤191∧128≤d.toNat∧d.toNat≤191∧128≤e.toNat∧e.toNat≤191∧(b.toNat=240→144≤c.toNat)∧(b.toNat=244→c.toNat≤143)):=by
 have hb:b.toNat<256:=b.toNat_lt;have hc:c.toNat<256:=c.toNat_lt;have hd:d.toNat<256:=d.toNat_lt;have he:e.toNat<256:=e.toNat_lt;obtain⟨n,hn⟩: ∃n:Int,n=(((((b.toNat:Int)-240)*64+(c.toNat:Int)-128))*64+(d.toNat:Int)-128)*64+(e.toNat:Int)-128:=⟨_,rfl⟩;rw[←hn];unfold gm;by_cases h0:0≤n∧bg n.toNat=true
 ·rw[az h0];obtain⟨m,rfl⟩: ∃m:Nat,n=m:=⟨n.toNat,by omega⟩;rw[mn]at h0 ⊢
  have hr:=h0.2;simp[bg]at hr;unfold fS;split
  ·simp;omega
  ·split
   ·simp;omega
   ·split
    ·simp;omega
    ·rw[u6,u6,u6,u6,ofNat_eq (by omega),ofNat_eq (by omega),ofNat_eq (by omega),ofNat_eq (by omega)];simp only[kJ];constructor
     ·rintro⟨h1,h2,h3,h4⟩;omega
     ·intro h;omega
 ·rw[ah h0];simp only[List.nil_eq,reduceCtorEq,false_iff];intro h;refine h0 ⟨by omega,?_⟩;simp[bg];omega
theorem abJ (n b c d e:Nat):(¬Lib.decodeN n b c d e=(65533,1)∧(Lib.decodeN n b c d e).2=1)↔b<128:=by
 unfold Lib.decodeN
 repeat' split
 all_goals first|(simp;done)|(simp;omega)
theorem abK (n b c d e:Nat) (hn:2≤n) (hb:b<256) (hc:c<256):(¬Lib.decodeN n b c d e=(65533,1)∧(Lib.decodeN n b c d e).2=2)↔(194≤b∧b≤223∧128≤c∧c≤191):=by
 unfold Lib.decodeN
 repeat' split
 all_goals first|(simp;done)|(simp;omega)
theorem abL (n b c d e:Nat) (hn:3≤n) (hb:b<256) (hc:c<256) (hd:d<256):(¬Lib.decodeN n b c d e=(65533,1)∧(Lib.decodeN n b c d e).2=3)↔
  (224≤b∧b≤239∧128≤c∧c≤191∧128≤d∧d≤191∧(b=224→160≤c)∧(b=237→c≤159)):=by
 unfold Lib.decodeN
 repeat' split
 all_goals first|(simp;done)|(simp;omega)
theorem abM (n b c d e:Nat) (hn:4≤n) (hb:b<256) (hc:c<256) (hd:d<256) (he:e<256):(¬Lib.decodeN n b c d e=(65533,1)∧(Lib.decodeN n b c d e).2=4)↔
  (240≤b∧b≤244∧128≤c∧c≤191∧128≤d∧d≤191∧128≤e∧e≤191∧(b=240→144≤c)∧(b=244→c≤143)):=by
 unfold Lib.decodeN
 repeat' split
 all_goals first|(simp;done)|(simp;omega)
theorem afO (l:List UInt8) (i:Nat):(dec l i).2≤4:=by
 unfold dec Lib.decodeN
 repeat' split
 all_goals simp
theorem OC (h:i+w≤l.length) (h1:1≤w) (h4:w≤4):gm (jS l i w)=(l.drop i).take w↔(bad l i=false∧(dec l i).2=w):=by
 have Dr:bad l i=false↔ ¬dec l i=(65533,1):=by unfold bad;rw[bN]
 rw[Dr,ζ l i w h,dec];have e0:l.getD i 0=au l i:=rfl;have e1:l.getD (i+1) 0=au l (i+1):=rfl;have e2:l.getD (i+2) 0=au l (i+2):=rfl;have e3:l.getD (i+3) 0=au l (i+3):=rfl;rw[e0,e1,e2,e3];have t0:(au l i).toNat<256:=(au l i).toNat_lt;have t1:(au l (i+1)).toNat<256:=(au l (i+1)).toNat_lt;have t2:(au l (i+2)).toNat<256:=(au l (i+2)).toNat_lt;have t3:(au l (i+3)).toNat<256:=(au l (i+3)).toNat_lt;have hw:w=1∨w=2∨w=3∨w=4:=by omega
 rcases hw with rfl|rfl|rfl|rfl
 ·rw[abJ,←Yi];simp[jS,gP,FP,qU]
 ·rw[abK _ _ _ _ _ (by omega) t0 t1,←Yj];simp[jS,gP,FP,qU]
 ·rw[abL _ _ _ _ _ (by omega) t0 t1 t2,←Yk];simp[jS,gP,FP,qU]
 ·rw[abM _ _ _ _ _ (by omega) t0 t1 t2 t3,←Yl];simp[jS,gP,FP,qU]
def tB (l:List UInt8) (i:Nat):Nat:=if bad l i=true then 0 else(dec l i).2
theorem Qm (h:i+w≤l.length) (h1:1≤w) (h4:w≤4) (hh:gm (jS l i w)=(l.drop i).take w):tB l i=w:=by
 obtain⟨hb,hw⟩:=(OC h h1 h4).1 hh;rw[tB,hb,ah (by simp),hw]
theorem Mz (hi:i<l.length) (hw:w=5∨l.length<i+w) (hh: ∀v,1≤v→v<w→gm (jS l i v)≠(l.drop i).take v):tB l i=0:=by
 unfold tB;cases hb:bad l i
 ·exfalso;have h1:=vM l i;have h2:=Tk l i hi;have h3:=afO l i;exact hh _ h1 (by omega) ((OC h2 h1 h3).2 ⟨hb,rfl⟩)
 ·rw[az rfl]
theorem Uz (l:List UInt8) (i:Nat) (n0:Int) (h: -255≤n0∧n0≤255): ∀j,j≤3→ -100000000≤gP l i n0 j∧gP l i n0 j≤100000000:=by
 have hb: ∀k,(au l k).toNat<256:=fun k=>(au l k).toNat_lt
 intro j hj;have hc:j=0∨j=1∨j=2∨j=3:=by omega
 have b1:=hb (i+(0+1));have b2:=hb (i+(1+1));have b3:=hb (i+(2+1));rcases hc with rfl|rfl|rfl|rfl<;>simp only[gP]<;>omega
theorem Qn (n:Int):(gm n).length≤4:=by
 unfold gm;split
 ·exact(xD _).2
 ·simp
