import Derived.Test.YtcdoilkjmjbgmaaGreatDoorW02
import Derived.Deep.QuietTactic
import Derived.BigQuiet
import Derived.Deep.CutRange
/- Part of the proof of YtcdoilkjmjbgmaaGreatDoorCardX: PlD SpanA SpanB SpanC NumA NumB UtfE RzA RcA RaA. -/
set_option maxRecDepth 100000
set_option maxHeartbeats 4000000
set_option linter.unusedVariables false
set_option linter.unusedSimpArgs false
namespace Go.Proofs.YtcdoilkjmjbgmaaGreatDoor
open Go.RowKit
open Go.Proofs.Tryz
variable {c q:UInt8} {k i f fin next sum at' u behind j n w a base F r x:Nat} {l b I bs:List UInt8} {s:ByteArray} {w':World} {P:Program} {v:Value} {e:TypeId}
def xq:Nat→UInt8
 |0=>121|1=>119|2=>100|3=>104|4=>109|_=>115
def dc:Nat→Nat
 |0=>31536000000|1=>604800000|2=>86400000|3=>3600000|4=>60000|5=>1000|_=>1
def Xh (c:UInt8):Nat:=if c=121 then 0 else if c=119 then 1 else if c=100 then 2 else if c=104 then 3 else if c=109 then 4 else if c=115 then 5 else 7
def aJ (l:List UInt8) (i:Nat):Nat×Nat:=
 if l.length≤i then(7,i)
 else if an l i=109∧i+1<l.length∧an l (i+1)=115 then(6,i+2)
 else if Xh (an l i)=7 then(7,i)else(Xh (an l i),i+1)
def iU (n:Nat) (c:UInt8):Nat:=min (n*10+(c.toNat-48)) 315360000000001
def qH (n:Nat) (l:List UInt8):Nat:=l.foldl iU n
def sat (l:List UInt8):Nat:=qH 0 l
def jz (n u sum:Nat):Nat:=if 315360000000000/dc u<n then 315360000000001 else min (sum+n*dc u) 315360000000001
def Ee:Nat→List UInt8→Nat→Nat→Nat→Nat×Nat
 |0,_,fin,_,sum=>(fin,sum)
 |f+1,l,fin,next,sum=>
  if ae digit l fin=fin∨(aJ l (ae digit l fin)).1<next∨(aJ l (ae digit l fin)).1=7 then(fin,sum)
  else Ee f l (aJ l (ae digit l fin)).2 ((aJ l (ae digit l fin)).1+1) (jz (sat ((l.drop fin).take (ae digit l fin-fin))) (aJ l (ae digit l fin)).1 sum)
def measure (l:List UInt8):Nat×Nat:=Ee 8 l 0 0 0
def aW (l:List UInt8):Nat:=(measure l).1
def bu (l:List UInt8):Nat×Nat:=
 if 64<l.length then(0,1)
 else if (measure l).1=0∨(measure l).1<l.length then(0,30)
 else if 315360000000000<(measure l).2 then(0,31)else((measure l).2,0)
theorem ql (n:Nat) (c:UInt8) (r:List UInt8):qH n (c::r)=qH (iU n c) r:=by
 unfold qH;exact List.foldl_cons ..
theorem uB (n:Nat) (c:UInt8):iU n c≤315360000000001:=by unfold iU;exact Nat.min_le_right _ _
theorem Jc: ∀(l:List UInt8) (n:Nat),n≤315360000000001→qH n l≤315360000000001
 |[],n,h=>h
 |c::r,n,_=>by
  have h:=ql n c r;rw[h];exact Jc r _ (uB n c)
theorem ac0 (l:List UInt8):sat l≤315360000000001:=by
 rw[sat];exact Jc l 0 (aT _)
theorem ac1 (c:UInt8):Xh c≤5∨Xh c=7:=by
 unfold Xh
 repeat' split
 all_goals omega
theorem jW (l:List UInt8) (i:Nat):i≤(aJ l i).2∧(i≤l.length→(aJ l i).2≤l.length)∧((aJ l i).1≤6∨(aJ l i).1=7):=by
 unfold aJ;split
 ·exact⟨aP _,fun h=>h,.inr rfl⟩
 ·split
  ·rename_i h;exact⟨by simp,fun _=>by simp;omega,.inl (by simp)⟩
  ·split
   ·exact⟨aP _,fun h=>h,.inr rfl⟩
   ·rename_i h;have:=ac1 (an l i);exact⟨by simp,fun _=>by simp;omega,.inl (by simp;omega)⟩
theorem T3: ∀(f:Nat) (l:List UInt8) (fin next sum:Nat),fin≤l.length→(Ee f l fin next sum).1≤l.length
 |0,_,_,_,_,h=>h
 |f+1,l,fin,next,sum,h=>by
  rw[Ee];split
  ·exact h
  ·exact T3 f l _ _ _ ((jW l _).2.1 (bI digit l fin h))
theorem ky (l:List UInt8):aW l≤l.length:=T3 8 l 0 0 0 (aT _)
theorem Yt (hk:k<6) (h:xq k=c):Xh c=k:=by
 subst h
 match k,hk with
 |0,_=>rfl|1,_=>rfl|2,_=>rfl|3,_=>rfl|4,_=>rfl|5,_=>rfl
theorem UD (h: ∀k,k<6→xq k≠c):Xh c=7:=by
 have h0:=h 0 (by omega);have h1:=h 1 (by omega);have h2:=h 2 (by omega);have h3:=h 3 (by omega);have h4:=h 4 (by omega);have h5:=h 5 (by omega);simp only[xq]at*
 unfold Xh;rw[af (Ne.symm h0),af (Ne.symm h1),af (Ne.symm h2),af (Ne.symm h3),af (Ne.symm h4),af (Ne.symm h5)]
theorem EZ (u:Nat):1≤dc u∧dc u≤31536000000:=by
 unfold dc;split<;>omega
theorem Mz (c:UInt8) (w:World):
  Calls prog 191 #[.int .u8 (c.toNat:Int)] w fun e w'=>e= .returned (.bool (digit c))∧w=w':=by
 go_enter func191,ntmps191;go_wp2
 all_goals (go_ret;exact⟨ah (by rw[eE];simp[digit];omega),rfl⟩)
theorem UE (s:ByteArray) (x:Int) (i:Nat) (hx:x=(i:Int)) (w:World) (hs:s.size≤281474976710656) (hi:i≤281474976710656):
  Calls prog 179 #[.string s,.int .i64 x] w fun e w'=>e= .returned (.int .i64 (ae digit s.data.toList i:Nat))∧w=w':=by
 subst hx;go_enter func179,ntmps179;go_wp2_with fail;go_loop [1] (fun t=> ∃k:Nat,k≤562949953421312∧t= .int .i64 k∧Hid (ae digit s.data.toList k=ae digit s.data.toList i)) (fun t=>s.size-(intOf t).toNat)
 case atStart=>exact⟨i,by omega,rfl,rfl⟩
 case round=>
  obtain⟨k,hk,rfl,gJ⟩:=hrel;by_cases au:k<s.size
  ·cases hd:digit s[k]
   all_goals
    go_wp2_with (go_at_call 191;refine(Mz _ _).mono ?_;rintro e w' ⟨rfl,rfl⟩)
   ·go_ret;exact⟨aE (by rw[←gJ.out,gC au hd]),rfl⟩
   ·go_round
    case rel=>exact⟨k+1,by omega,by go_num,(gB au hd).trans gJ⟩
    case measure=>simp[intOf];omega
  ·go_wp2_with fail;go_ret;exact⟨aE (by rw[←gJ.out,bO (by simpa using au)]),rfl⟩
theorem Qu (x : Int) (k : Nat) (hx : x = (k : Int)) (hk : k < 6) (w : World) :
    Calls prog 192 #[.int .i64 x] w fun e w'=>e= .returned (.string ⟨#[xq k]⟩)∧w=w':=by
  subst hx
  match k,hk with
  | 0, _ | 1, _ | 2, _ | 3, _ | 4, _ | 5, _ =>
    go_enter func192,ntmps192
    go_wp2_with fail
    go_ret
    exact⟨rfl,rfl⟩
theorem o5 (x : Int) (u : Nat) (hx : x = (u : Int)) (hu : u ≤ 6) (w : World) :
    Calls prog 182 #[.int .i64 x] w fun e w'=>e= .returned (.int .i64 (dc u:Nat))∧w=w':=by
  subst hx
  match u,hu with
  | 0, _ | 1, _ | 2, _ | 3, _ | 4, _ | 5, _ | 6, _ =>
    go_enter func182,ntmps182
    go_wp2_with fail
    go_ret
    exact⟨rfl,rfl⟩
theorem CQ (s:ByteArray) (w:World) (hs:s.size≤281474976710656) (hd: ∀k (h:k<s.size),48≤s[k].toNat∧s[k].toNat≤57):
  Calls prog 181 #[.string s] w fun e w'=>e= .returned (.int .i64 (sat s.data.toList:Nat))∧w=w':=by
 have HD:=aa hd;clear hd;go_enter func181,ntmps181;go_wp2_with fail;go_loop [3,4] (fun v i=> ∃k n:Nat,k≤s.size∧i= .int .i64 k∧v= .int .i64 n∧(n:Int)≤315360000000001∧Hid (qH n (s.data.toList.drop k)=sat s.data.toList)) (fun _ i=>s.size-(intOf i).toNat)
 case atStart=>exact⟨0,0,aT _,by go_num,by go_num,by omega,aa (by rw[Bc,sat])⟩
 case round=>
  obtain⟨k,n,hk,rfl,rfl,hn,gJ⟩:=hrel;by_cases au:k<s.size
  ·have cA:qH (iU n s[k]) (s.data.toList.drop (k+1))=sat s.data.toList:=by
    have h1:=drop_at (l:=s.data.toList) (i:=k) (by rw[ab];exact au);rw[aq au]at h1;exact(ql _ _ _).symm.trans ((bT (qH n) h1).symm.trans gJ)
   rw[iU]at cA;obtain⟨h1,h2⟩:=HD k au;clear gJ;by_cases hb:(315360000000001:Int)<(n:Int)*10+((s[k].toNat:Int)-48)
   ·rw[qE (by omega)]at cA;have HS:=aa cA;have hB:((315360000000001:Int)<(n:Int)*10+((s[k].toNat:Int)-48))=True:=by simp[hb]
    clear cA hb;go_wp2_with fail;go_round
    case rel=>exact⟨k+1,315360000000001,by omega,by go_num,by go_num,by omega,HS⟩
    case measure=>simp[intOf];omega
   ·rw[mr (by omega)]at cA;have HS:=aa cA;have hB:((315360000000001:Int)<(n:Int)*10+((s[k].toNat:Int)-48))=False:=by simp[hb]
    clear cA;go_wp2_with fail;go_round
    case rel=>exact⟨k+1,n*10+(s[k].toNat-48),by omega,by go_num,by go_num,by omega,HS⟩
    case measure=>simp[intOf];omega
  ·have cA:sat s.data.toList=n:=by rw[←gJ.out,s9 (by rw[ab];omega)];rfl
   have HS:=aa cA;clear cA gJ;go_wp2_with fail;go_ret;exact⟨aE (by rw[HS.out]),rfl⟩
def Two (w:World) (r:Nat×Nat) (e:Ending) (w':World):Prop:=e= .returned (.tuple #[.int .i64 (r.1:Nat),.int .i64 (r.2:Nat)])∧Below w.heap.size w w'
theorem Cd (h:l.length≤i):aJ l i=(7,i):=by rw[aJ,ar h]
theorem E0 (h:i+1<l.length) (h1:an l i=109) (h2:an l (i+1)=115):aJ l i=(6,i+2):=by
 rw[aJ,af (by omega),ar ⟨h1,h,h2⟩]
theorem ie (h:i<l.length) (hn: ¬(an l i=109∧i+1<l.length∧an l (i+1)=115)) (hk:k<6) (hh:xq k=an l i):aJ l i=(k,i+1):=by
 rw[aJ,af (by omega),af hn,Yt hk hh,af (by omega)]
theorem yV (h:i<l.length) (hn: ¬(an l i=109∧i+1<l.length∧an l (i+1)=115)) (hh: ∀k,k<6→xq k≠an l i):aJ l i=(7,i):=by
 rw[aJ,af (by omega),af hn,UD hh,ar rfl]
theorem ki (s:ByteArray) (x:Int) (i:Nat) (hx:x=(i:Int)) (w:World) (hs:s.size≤281474976710656) (hi:i<s.size) (hn: ¬(an s.data.toList i=109∧i+1<s.data.toList.length∧an s.data.toList (i+1)=115))
  (hb:(((s[i].toNat:Int)==109)=false)∨(((s[i].toNat:Int)==109)=true∧((i:Int)+1<s.size)=False)∨(∃h:i+1<s.size,((s[i].toNat:Int)==109)=true∧((s[i+1].toNat:Int)==115)=false)):
  Calls prog 180 #[.string s,.int .i64 x] w (Two w (aJ s.data.toList i)):=by
 subst hx;have HN:=aa hn;clear hn;go_enter func180,ntmps180;have xa:((i:Int)<(s.size:Int))=True:=by simp;omega
 rcases hb with hb|⟨hb,aM⟩|⟨h,hb,aM⟩
 all_goals
  go_wp2_with fail;go_loopw [6] (fun t wr=> ∃k:Nat,k≤6∧t= .int .i64 k∧Below w.heap.size w wr∧Hid (∀j,j<k→xq j≠s[i])) (fun t _=>6-(intOf t).toNat)
  case atStart=>exact⟨0,by omega,rfl,aS _ _,fun j hj=>absurd hj (by omega)⟩
  case round=>
   obtain⟨k,hk,rfl,bN,fE⟩:=hrel;by_cases au:k<6
   ·go_wp2_with fail;go_quiet ((go_at_call 192;exact Calls.quiet_of_same ((Qu _ k rfl au _).mono fun _ _ ⟨h1,h2⟩=>⟨h1,h2.symm⟩)));have oN:=bS bN nq;clear bN;generalize wr.drewN nq=w2 at oN ⊢
    have HM:=aa fE;clear fE;have NW:(⟨#[xq k]⟩:ByteArray)[0]'(by simp[ByteArray.size])=xq k:=rfl;cases hq:((((⟨#[xq k]⟩:ByteArray)[0]'(by simp[ByteArray.size])).toNat:Int)==(s[i].toNat:Int))
    ·have tl: ∀j,j<k+1→xq j≠s[i]:=by
      intro j hj;by_cases hjk:j<k
      ·exact HM j hjk
      ·have:j=k:=by omega
       subst this;intro he;rw[NW,he]at hq;simp at hq
     have Wz:=aa tl;clear tl;go_wp2_with fail;go_roundw
     case rel=>exact⟨k+1,by omega,by go_num,oN,Wz⟩
     case measure=>simp[intOf];omega
    ·have hu:xq k=s[i]:=by
      rw[NW]at hq;have h1:((xq k).toNat:Int)=(s[i].toNat:Int):=by simpa using hq
      exact Ba.1 (by omega)
     have hE:=ie (l:=s.data.toList) (by rw[ab];exact hi) HN au (by rw[aq hi];exact hu);have HE:=aa hE;clear hE hu;go_wp2_with fail;go_ret2;exact⟨by rw[HE.out];rfl,oN⟩
   ·obtain rfl:k=6:=by omega
    have HE:=aa (yV (l:=s.data.toList) (by rw[ab];exact hi) HN (by rw[aq hi];intro j hj;exact fE j (by omega)));clear fE;go_wp2_with fail;go_ret2;exact⟨by rw[HE.out];rfl,bN⟩
theorem J7 (s:ByteArray) (x:Int) (i:Nat) (hx:x=(i:Int)) (w:World) (hs:s.size≤281474976710656) (hi:i≤281474976710656):
  Calls prog 180 #[.string s,.int .i64 x] w (Two w (aJ s.data.toList i)):=by
 by_cases ho:s.size≤i
 ·have hE:=Cd (l:=s.data.toList) (i:=i) (by rw[ab];exact ho);have HE:=aa hE;clear hE;subst hx;go_enter func180,ntmps180;go_wp2_with fail;go_ret2;exact⟨by rw[HE.out];rfl,aS _ _⟩
 ·have au:i<s.size:=by omega
  cases h1:((s[i].toNat:Int)==109)
  ·exact ki s x i hx w hs au (by rw[aq au];rintro⟨h,_⟩;rw[h]at h1;simp at h1) (.inl h1)
  ·by_cases h2:i+1<s.size
   ·cases h3:((s[i+1].toNat:Int)==115)
    ·exact ki s x i hx w hs au (by rw[aq h2];rintro⟨_,_,h⟩;rw[h]at h3;simp at h3) (.inr (.inr ⟨h2,h1,h3⟩))
    ·have e1:an s.data.toList i=109:=by rw[aq au];exact oD (n:=109) (by omega) rfl h1
     have e2:an s.data.toList (i+1)=115:=by rw[aq h2];exact oD (n:=115) (by omega) rfl h3
     have HE:=aa (E0 (l:=s.data.toList) (i:=i) (by rw[ab];exact h2) e1 e2);clear e1 e2;subst hx;go_enter func180,ntmps180;have xa:((i:Int)<(s.size:Int))=True:=by simp;omega
     have PB:((i:Int)+1<(s.size:Int))=True:=by simp;omega
     go_wp2_with fail;go_ret2;exact⟨by rw[HE.out];rfl,aS _ _⟩
   ·exact ki s x i hx w hs au (by rw[ab];omega) (.inr (.inl ⟨h1,by simp;omega⟩))
theorem jB (h:ae digit l fin=fin∨(aJ l (ae digit l fin)).1<next∨(aJ l (ae digit l fin)).1=7):Ee (f+1) l fin next sum=(fin,sum):=by
 rw[Ee,ar h]
theorem L4 (h1:ae digit l fin=at') (h2:aJ l at'=(u,behind)) (h3:at'≠fin) (h4:next≤u) (h5:u≠7):Ee (f+1) l fin next sum=Ee f l behind (u+1) (jz (sat ((l.drop fin).take (at'-fin))) u sum):=by
 rw[Ee,h1,h2,af (by omega)]
theorem GP (p:UInt8→Bool) (l:List UInt8) (i:Nat):(l.drop i).take (ae p l i-i)=(l.drop i).takeWhile p:=by
 rw[ae,show i+((l.drop i).takeWhile p).length-i=((l.drop i).takeWhile p).length by omega];exact(List.prefix_iff_eq_take.1 (List.takeWhile_prefix p)).symm
theorem MA (h:digit c=true):48≤c.toNat∧c.toNat≤57:=by
 simp[digit]at h;omega
theorem yW (hj:ae digit s.data.toList i=j): ∀k (h:k<(s.extract i j).size),48≤(s.extract i j)[k].toNat∧(s.extract i j)[k].toNat≤57:=by
 intro k h;have hl:(s.extract i j).data.toList=(s.data.toList.drop i).takeWhile digit:=by
  rw[Lib.extract_data,←hj,GP]
 have hk:k<(s.extract i j).data.toList.length:=by rw[ab];exact h
 have hm:(s.extract i j)[k]∈(s.data.toList.drop i).takeWhile digit:=by
  rw[←hl,←gl _ k hk];exact gj _
 exact MA (rl.1 List.all_takeWhile _ hm)
theorem yX (h:315360000000000/dc u<n):jz n u sum=315360000000001:=by
 unfold jz;rw[ar h]
theorem yY (h:n≤315360000000000/dc u):jz n u sum=min (sum+n*dc u) 315360000000001:=by
 unfold jz;rw[af (by omega)]
theorem Jd (h:n≤315360000000000/dc u):n*dc u≤315360000000000:=
 bn (fc _ h) (II _ _)
theorem nE {w:World} {r:Nat×Nat} {b:Nat} (h:r=(a,b)) (hb:Below w.heap.size w w'):Two w r (.returned (.tuple #[.int .i64 (a:Int),.int .i64 (b:Int)])) w':=by
 subst h;exact⟨rfl,hb⟩
theorem wN (s:ByteArray) (w:World) (hs:s.size≤281474976710656):Calls prog 167 #[.string s] w (Two w (measure s.data.toList)):=by
 go_enter func167,ntmps167;go_wp2_with fail;go_loopw [4,5,6] (fun v t x wr=> ∃f fin next sum:Nat,fin≤s.size∧next≤7∧8≤f+next∧(sum:Int)≤315360000000001∧v= .int .i64 fin∧t= .int .i64 sum∧x= .int .i64 next∧Below w.heap.size w wr∧Hid (Ee f s.data.toList fin next sum=measure s.data.toList)) (fun _ _ x _=>7-(intOf x).toNat)
 case atStart=>exact⟨8,0,0,0,aT _,by omega,by omega,by omega,by go_num,by go_num,by go_num,aS _ _,aa rfl⟩
 case round=>
  obtain⟨f,fin,next,sum,kH,ω,hf,asg,rfl,rfl,rfl,bN,hM⟩:=hrel;obtain⟨f,rfl⟩: ∃g,f=g+1:=⟨f-1,by omega⟩;go_wp2_with fail;refine(UE s _ fin rfl _ hs (by omega)).mono ?_;rintro e w1 ⟨rfl,rfl⟩;have rj:=aV digit s.data.toList fin;have pP:=bI digit s.data.toList fin (by rw[ab];exact kH);rw[ab]at pP;obtain⟨at',cB⟩: ∃k,k=ae digit s.data.toList fin:=⟨_,rfl⟩;rw[←cB]at rj pP ⊢
  have HA:=aa cB;clear cB;go_wp2_with fail;refine(J7 s _ at' rfl _ hs (by omega)).mono ?_;rintro e w2 ⟨rfl,aM⟩;have oN:=bN.trans (aM.mono bN.size);clear aM bN;have hU:=jW s.data.toList at';rw[ab]at hU;obtain⟨u,behind,hu⟩: ∃u b,(u,b)=aJ s.data.toList at':=⟨_,_,rfl⟩;rw[←hu]at hU ⊢
  obtain⟨hU1,SG,ZM⟩:=hU;have HU:=aa hu;clear hu;simp only at hU1 SG ZM ⊢
  cases hq:((at':Int)==(fin:Int))
  ·cases au:decide (u<next)
   ·cases h7:((u:Int)==7)
    ·go_wp2_with fail;have hf1:at'≠fin:=by have:=kA hq;omega
     have AK:next≤u:=by have:=tc au;omega
     have hu7:u≠7:=by have:=kA h7;omega
     have hg:=(L4 (f:=f) (l:=s.data.toList) (fin:=fin) (next:=next) (sum:=sum) HA.symm HU.symm hf1 AK hu7).symm.trans hM;have oE:=yW (s:=s) (i:=fin) HA.symm;have FG:(s.extract fin at').size≤281474976710656:=by simp;omega
     have qX:(s.extract fin at').data.toList=(s.data.toList.drop fin).take (at'-fin):=Lib.extract_data ..;refine(CQ _ _ FG oE).mono ?_;rintro e w3 ⟨rfl,rfl⟩;rw[qX];have hle:=ac0 ((s.data.toList.drop fin).take (at'-fin));obtain⟨n,hn⟩: ∃n,n=sat ((s.data.toList.drop fin).take (at'-fin)):=⟨_,rfl⟩;rw[←hn]at hle hg ⊢
     have afn:(n:Int)≤315360000000001:=by omega
     have HG:=aa hg;have Lm:=SG pP;have hu6:u≤6:=by omega
     clear hn hle oE FG qX hg hM SG ZM HA HU;have hz:=EZ u;obtain⟨db,ej⟩:=hz;have yn:((dc u:Int)==0)=false:=by rw[bK];omega
     have nh:(dc u:Int)≤31536000000:=by omega
     clear ej;have WC:(315360000000000:Int)/(dc u:Int)=((315360000000000/dc u:Nat):Int):=by rw[Int.natCast_ediv];rfl
     cases iJ:decide ((315360000000000:Int)/(dc u:Int)<(n:Int))
     ·have Sd:n≤315360000000000/dc u:=by have:=tc iJ;omega
      have hmul:=Jd (u:=u) Sd;have Lb:=yY (u:=u) (sum:=sum) Sd;clear Sd WC;have φ:(n:Int)*(dc u:Int)≤315360000000000:=by rw[←yD];omega
      have agq:0≤(n:Int)*(dc u:Int):=by rw[←yD];omega
      have Γ:(n:Int)*(dc u:Int)=((n*dc u:Nat):Int):=by rw[←yD]
      have HM:=aa Γ;clear Γ;go_wp2_with fail;refine(o5 _ u rfl hu6 _).mono ?_;rintro e w3 ⟨rfl,rfl⟩;cases It:decide ((315360000000001:Int)<(sum:Int)+(n:Int)*(dc u:Int))
      ·have IX:sum+n*dc u≤315360000000001:=by
        have:=tc It;rw[HM.out]at this;omega
       rw[Lb,mr IX]at HG;clear IX Lb;go_wp2_with fail;refine(o5 _ u rfl hu6 _).mono ?_;rintro e w3 ⟨rfl,rfl⟩;go_wp2_with fail;go_roundw
       case rel=>exact⟨f,behind,u+1,sum+n*dc u,Lm,by omega,by omega,by have:=tc It;have:=HM.out;omega,by go_num,by rw[af (tc It),HM.out,←Int.natCast_add],by go_num,oN,HG⟩
       case measure=>simp[intOf];omega
      ·have IX:315360000000001≤sum+n*dc u:=by
        have:=nY It;rw[HM.out]at this;omega
       rw[Lb,qE IX]at HG;clear IX Lb;go_wp2_with fail;refine(o5 _ u rfl hu6 _).mono ?_;rintro e w3 ⟨rfl,rfl⟩;go_wp2_with fail;go_roundw
       case rel=>exact⟨f,behind,u+1,315360000000001,Lm,by omega,by omega,by omega,by go_num,by rw[ar (nY It)];rfl,by go_num,oN,HG⟩
       case measure=>simp[intOf];omega
     ·have Lb:=yX (u:=u) (n:=n) (sum:=sum) (by have:=nY iJ;omega);rw[Lb]at HG;clear Lb WC;go_wp2_with fail;refine(o5 _ u rfl hu6 _).mono ?_;rintro e w3 ⟨rfl,rfl⟩;go_wp2_with fail;refine(o5 _ u rfl hu6 _).mono ?_;rintro e w3 ⟨rfl,rfl⟩;go_wp2_with fail;go_roundw
      case rel=>exact⟨f,behind,u+1,315360000000001,Lm,by omega,by omega,by omega,by go_num,by go_num,by go_num,oN,HG⟩
      case measure=>simp[intOf];omega
    ·have hE:=(jB (f:=f) (l:=s.data.toList) (fin:=fin) (next:=next) (sum:=sum) (.inr (.inr (by rw[←HA.out,←HU.out];exact Int.ofNat.inj (js h7))))).symm.trans hM;have HE:=aa hE;clear hE hM;go_wp2_with fail;go_ret2;exact nE HE.symm oN
   ·have hE:=(jB (f:=f) (l:=s.data.toList) (fin:=fin) (next:=next) (sum:=sum) (.inr (.inl (by rw[←HA.out,←HU.out];exact nY au)))).symm.trans hM;have HE:=aa hE;clear hE hM;go_wp2_with fail;go_ret2;exact nE HE.symm oN
  ·have hE:=(jB (f:=f) (l:=s.data.toList) (fin:=fin) (next:=next) (sum:=sum) (.inl (by rw[←HA.out];exact Int.ofNat.inj (js hq)))).symm.trans hM;have HE:=aa hE;clear hE hM;go_wp2_with fail;go_ret2;exact nE HE.symm oN
theorem J8 (s:ByteArray) (w:World) (hs:s.size≤281474976710656):Calls prog 158 #[.string s] w fun e w'=>e= .returned (.int .i64 (aW s.data.toList:Nat))∧Below w.heap.size w w':=by
 go_enter func158,ntmps158;go_wp2_with fail;refine(wN s _ hs).mono ?_;rintro e w1 ⟨rfl,hb⟩;go_wp2_with fail;go_ret;exact⟨rfl,hb⟩
theorem Ce (s:ByteArray) (w:World):Calls prog 159 #[.string s] w (Two w (bu s.data.toList)):=by
 by_cases hl:64<s.size
 ·have hE:bu s.data.toList=(0,1):=by rw[bu,ar (by rw[ab];exact hl)]
  go_enter func159,ntmps159;go_wp2_with fail;go_ret2;exact nE hE (aS _ _)
 ·obtain⟨r,hr⟩: ∃r,r=measure s.data.toList:=⟨_,rfl⟩;obtain⟨fin,sum⟩:=r;have hE:bu s.data.toList=if fin=0∨fin<s.size then(0,30)else if 315360000000000<sum then(0,31)else(sum,0):=by
   rw[bu,af (by rw[ab];exact hl),←hr,ab]
  have HE:=aa hE;have HR:=aa hr;clear hE hr;go_enter func159,ntmps159;go_wp2_with fail;refine(wN s _ (by omega)).mono ?_;rintro e w1 ⟨rfl,hb⟩;rw[←HR.out];have HB:=aa hb;clear hb;simp only;cases h0:((fin:Int)==0)
  ·cases h1:decide (fin<s.size)
   ·cases h2:decide ((315360000000000:Int)<(sum:Int))
    ·have hR:bu s.data.toList=(sum,0):=by
      rw[HE.out,af (by have:=kA h0;have:=tc h1;omega),af (by have:=tc h2;omega)]
     have Ef:=aa hR;clear hR;go_wp2_with fail;go_ret2;exact nE Ef HB
    ·have hR:bu s.data.toList=(0,31):=by
      rw[HE.out,af (by have:=kA h0;have:=tc h1;omega),ar (by have:=nY h2;omega)]
     have Ef:=aa hR;clear hR;go_wp2_with fail;go_ret2;exact nE Ef HB
   ·have hR:bu s.data.toList=(0,30):=by
     rw[HE.out,ar (.inr (nY h1))]
    have Ef:=aa hR;clear hR;go_wp2_with fail;go_ret2;exact nE Ef HB
  ·have hR:bu s.data.toList=(0,30):=by
    rw[HE.out,ar (.inl (by have:=js h0;omega))]
   have Ef:=aa hR;clear hR;go_wp2_with fail;go_ret2;exact nE Ef HB
theorem o6 (c:UInt8) (w:World):
  Calls prog 165 #[.int .u8 (c.toNat:Int)] w fun e w'=>e= .returned (.bool (digit c))∧w=w':=by
 go_enter func165,ntmps165;go_wp2
 all_goals (go_ret;exact⟨ah (by rw[eE];simp[digit];omega),rfl⟩)
theorem Gr (c:UInt8) (w:World):
  Calls prog 163 #[.int .u8 (c.toNat:Int)] w fun e w'=>e= .returned (.bool (gS c))∧w=w':=by
 go_enter func163,ntmps163;cases hd:digit c
 all_goals
  go_wp2_with fail;refine(o6 _ _).mono ?_;rintro e w' ⟨rfl,rfl⟩;rw[hd];go_wp2_with fail
 all_goals (go_ret;exact⟨ah (by rw[eE];simp[gS,hd];try omega),rfl⟩)
theorem mT (s:ByteArray) (x:Int) (i:Nat) (hx:x=(i:Int)) (w:World) (hs:s.size≤281474976710656) (hi:i≤281474976710656):
  Calls prog 164 #[.string s,.int .i64 x,.func (.func 165) #[] #[]] w fun e w'=>e= .returned (.int .i64 (ae digit s.data.toList i:Nat))∧w=w':=by
 subst hx;go_enter func164,ntmps164;go_wp2_with fail;go_loop [1] (fun t=> ∃k:Nat,k≤562949953421312∧t= .int .i64 k∧Hid (ae digit s.data.toList k=ae digit s.data.toList i)) (fun t=>s.size-(intOf t).toNat)
 case atStart=>exact⟨i,by omega,rfl,rfl⟩
 case round=>
  obtain⟨k,hk,rfl,gJ⟩:=hrel;by_cases au:k<s.size
  ·cases hd:digit s[k]
   all_goals
    go_wp2_with (go_at_call 165;refine(o6 _ _).mono ?_;rintro e w' ⟨rfl,rfl⟩)
   ·go_ret;exact⟨aE (by rw[←gJ.out,gC au hd]),rfl⟩
   ·go_round
    case rel=>exact⟨k+1,by omega,by go_num,(gB au hd).trans gJ.out⟩
    case measure=>simp[intOf];omega
  ·go_wp2_with fail;go_ret;exact⟨aE (by rw[←gJ.out,bO (by simpa using au)]),rfl⟩
theorem J9 (s:ByteArray) (x:Int) (i:Nat) (hx:x=(i:Int)) (w:World) (hs:s.size≤281474976710656) (hi:i≤281474976710656):
  Calls prog 164 #[.string s,.int .i64 x,.func (.func 163) #[] #[]] w fun e w'=>e= .returned (.int .i64 (ae gS s.data.toList i:Nat))∧w=w':=by
 subst hx;go_enter func164,ntmps164;go_wp2_with fail;go_loop [1] (fun t=> ∃k:Nat,k≤562949953421312∧t= .int .i64 k∧Hid (ae gS s.data.toList k=ae gS s.data.toList i)) (fun t=>s.size-(intOf t).toNat)
 case atStart=>exact⟨i,by omega,rfl,rfl⟩
 case round=>
  obtain⟨k,hk,rfl,gJ⟩:=hrel;by_cases au:k<s.size
  ·cases hd:gS s[k]
   all_goals
    go_wp2_with (go_at_call 163;refine(Gr _ _).mono ?_;rintro e w' ⟨rfl,rfl⟩)
   ·go_ret;exact⟨aE (by rw[←gJ.out,gC au hd]),rfl⟩
   ·go_round
    case rel=>exact⟨k+1,by omega,by go_num,(gB au hd).trans gJ.out⟩
    case measure=>simp[intOf];omega
  ·go_wp2_with fail;go_ret;exact⟨aE (by rw[←gJ.out,bO (by simpa using au)]),rfl⟩
theorem qw (s:ByteArray) (x:Int) (i:Nat) (hx:x=(i:Int)) (w:World) (hs:s.size≤281474976710656) (hi:i≤s.size):
  Calls prog 166 #[.string s,.int .i64 x] w fun e w'=>e= .returned (.int .i64 (cQ s.data.toList i:Nat))∧w=w':=by
 subst hx;by_cases ho:i=s.size
 ·have hE:=Mv (s:=s) (i:=i) (by omega);subst ho;go_enter func166,ntmps166;go_wp2_with fail;go_ret;exact⟨aE (by rw[hE]),rfl⟩
 ·have au:i<s.size:=by omega
  have bC:((i:Int)==(s.size:Int))=false:=by rw[bK];omega
  by_cases hEE:(s[i].toNat:Int)=101∨(s[i].toNat:Int)=69
  ·have hj: ∃j,dF s.data.toList i=j∧Hid ((∃h:i+1<s.size,j=i+2∧((((s[i+1].toNat:Int)==43)=true)∨(((s[i+1].toNat:Int)==43)=false∧((s[i+1].toNat:Int)==45)=true)))∨(∃h:i+1<s.size,j=i+1∧((s[i+1].toNat:Int)==43)=false∧((s[i+1].toNat:Int)==45)=false)∨(¬i+1<s.size∧j=i+1)):=by
    refine⟨_,rfl,aa ?_⟩;by_cases h:i+1<s.size
    ·cases h1:((s[i+1].toNat:Int)==43)
     ·cases h2:((s[i+1].toNat:Int)==45)
      ·exact .inr (.inl ⟨h,Jb (fun _=>⟨kA h1,kA h2⟩),by first|rfl|assumption,by first|rfl|assumption⟩)
      ·exact .inl ⟨h,Ja h (.inr (js h2)),.inr ⟨by first|rfl|assumption,by first|rfl|assumption⟩⟩
     ·exact .inl ⟨h,Ja h (.inl (js h1)),.inl (by first|rfl|assumption)⟩
    ·exact .inr (.inr ⟨h,Jb (fun h'=>absurd h' h)⟩)
   obtain⟨j,hj,hJ⟩:=hj;obtain⟨k,hk⟩: ∃k,k=ae digit s.data.toList j:=⟨_,rfl⟩;have hjb:=nL s.data.toList i (by rw[ab];exact au);rw[hj,ab]at hjb;obtain⟨hj1,hj2⟩:=hjb;have hY:=fun h=>Mw au hEE hj hk.symm h
   have hS:=fun h=>J6 hj hk.symm h
   have HK:=aa hk;have HY:=aa hY;have HS:=aa hS;clear hk hY hS hj;have PC:(((s[i].toNat:Int) != 101)=false)∨(((s[i].toNat:Int) != 101)=true∧((s[i].toNat:Int) != 69)=false):=by
    rcases hEE with h|h<;>rw[h]<;>simp
   clear hEE;rcases PC with PC|⟨PC,hE2⟩
   all_goals
    rcases hJ.out with⟨h,rfl,hp|⟨hp,Ap⟩⟩|⟨h,rfl,hp,Ap⟩|⟨h,rfl⟩
    all_goals
     clear hJ;go_enter func166,ntmps166;go_wp2_with fail
     first
      |refine(mT s _ (i+1) (by omega) _ hs (by omega)).mono ?_
      |refine(mT s _ (i+2) (by omega) _ hs (by omega)).mono ?_
     rintro e w1 ⟨rfl,rfl⟩;rw[←HK.out];go_wp2_with fail
     all_goals
      go_ret
      first
       |exact⟨aE (by rw[HY.out (by omega)]),rfl⟩
       |exact⟨aE (by rw[HS.out (by omega)]),rfl⟩
  ·have h1:((s[i].toNat:Int) != 101)=true:=by rw[ju];omega
   have h2:((s[i].toNat:Int) != 69)=true:=by rw[ju];omega
   have hE:=Qo au (by omega) (by omega);clear hEE;go_enter func166,ntmps166;go_wp2_with fail;go_ret;exact⟨aE (by rw[hE]),rfl⟩
theorem CR (s:ByteArray) (w:World) (hs:s.size≤281474976710656) (hh:aO s.data.toList=true):
  Calls prog 157 #[.string s] w fun e w'=>e= .returned (.int .i64 (ag s.data.toList:Nat))∧w=w':=by
 have hE:ag s.data.toList=ae gS s.data.toList 2:=by rw[ag,ar hh]
 obtain⟨h2,h0,hx,h1⟩:=Yr hh;have HE:=aa hE;clear hE hh;rcases h1 with h1|⟨h1,h1'⟩
 all_goals
  go_enter func157,ntmps157;go_wp2_with fail;refine(Gr _ _).mono ?_;rintro e w' ⟨rfl,rfl⟩;rw[hx];go_wp2_with fail;refine(J9 s _ 2 rfl _ hs (by omega)).mono ?_;rintro e w' ⟨rfl,rfl⟩;go_wp2_with fail;go_ret;exact⟨aE (by rw[HE.out]),rfl⟩
theorem CT (s : ByteArray) (w : World) (hs : s.size ≤ 281474976710656) (hh : aO s.data.toList = false) :
    Calls prog 157 #[.string s] w fun e w'=>e= .returned (.int .i64 (ag s.data.toList:Nat))∧w=w':=by
  have hN:=abZ hh
  have HH:=aa hh
  clear hh
  obtain⟨k,hk⟩: ∃k,ae digit s.data.toList 0=k:=⟨_,rfl⟩
  have jJ:=bI digit s.data.toList 0 (aT _)
  rw[hk,ab]at jJ
  have HK:=aa hk
  clear hk
  rcases hN with h|⟨h,h1|⟨h1,⟨h2,h3⟩|⟨h2,h3⟩|⟨h2,h3,h4⟩⟩⟩
  all_goals
    go_enter func157,ntmps157
    go_wp2_with (go_at_call 163;refine(Gr _ _).mono ?_;rintro e w' ⟨rfl,rfl⟩)
    refine(mT s _ 0 rfl _ hs (by omega)).mono ?_
    rintro e w' ⟨rfl,rfl⟩
    rw[HK.out]
    go_wp2_with fail
  all_goals try
    (refine (o6 _ _).mono ?_
     rintro e w' ⟨rfl,rfl⟩
     cases hd:digit s[1]
     all_goals go_wp2_with fail)
  all_goals first
    | (have hE := agn HH.out (HK.out.trans (by omega)) (by intro h h'; first | omega | (simp_all; done))
       go_ret
       exact⟨aE (by rw[hE];rfl),rfl⟩)
    | (have hE := agm HH.out HK.out (by omega) (by intro h; first | omega | (simp_all; done))
       refine(qw s _ k (by omega) _ hs (by omega)).mono ?_
       rintro e w' ⟨rfl,rfl⟩
       have HE:=aa hE
       clear hE
       go_wp2_with fail
       go_ret
       exact⟨aE (by rw[HE.out]),rfl⟩)
    | (have hE := agk HH.out HK.out (by omega) (by first | assumption | (simp_all; done)) (by omega)
       refine(mT s _ (k+1) (by omega) _ hs (by omega)).mono ?_
       rintro e w' ⟨rfl,rfl⟩
       have h1:=aV digit s.data.toList (k+1)
       have h2:=bI digit s.data.toList (k+1) (by rw[ab];omega)
       rw[ab]at h2
       generalize ae digit s.data.toList (k+1)=m at h1 h2 hE ⊢
       have HE:=aa hE
       have hm:((m:Int)==0)=false:=by rw[bK];omega
       clear hE
       go_wp2_with fail
       refine(qw s _ m rfl _ hs (by omega)).mono ?_
       rintro e w' ⟨rfl,rfl⟩
       go_wp2_with fail
       go_ret
       exact⟨aE (by rw[HE.out]),rfl⟩)
    | (have hE := agl HH.out (HK.out.trans (by omega)) (by omega) (by first | assumption | (simp_all; done)) hd
       refine(mT s _ 1 (by omega) _ hs (by omega)).mono ?_
       rintro e w' ⟨rfl,rfl⟩
       have h1:=aV digit s.data.toList 1
       have h2:=bI digit s.data.toList 1 (by rw[ab];omega)
       rw[ab]at h2
       generalize ae digit s.data.toList 1=m at h1 h2 hE ⊢
       have HE:=aa hE
       have hm:((m:Int)==0)=false:=by rw[bK];omega
       clear hE
       go_wp2_with fail
       refine(qw s _ m rfl _ hs (by omega)).mono ?_
       rintro e w' ⟨rfl,rfl⟩
       go_wp2_with fail
       go_ret
       exact⟨aE (by rw[HE.out]),rfl⟩)
theorem Cf (s:ByteArray) (w:World) (hs:s.size≤281474976710656):
  Calls prog 157 #[.string s] w fun e w'=>e= .returned (.int .i64 (ag s.data.toList:Nat))∧w=w':=by
 cases hh:aO s.data.toList
 ·exact CT s w hs hh
 ·exact CR s w hs hh
theorem wa (h:dJ q l=some (b,n)):1≤n∧n≤l.length∧b.length≤n:=by
 have X0: ∀{l:List UInt8} {n base r:Nat},fe l n base=some r→n≤l.length:=by
  intro l n base r h;unfold fe at h;split at h
  ·simp at h
  ·omega
 cases l with
 |nil=>simp[dJ]at h
 |cons c r=>
  simp only[dJ]at h;split at h
  ·simp only[vt,vz]at h;obtain⟨rfl,rfl⟩:=h;simp
  ·split at h
   ·simp only[vt,vz]at h;obtain⟨rfl,rfl⟩:=h;simp
   ·split at h
    ·obtain⟨V,hV,h2⟩:=xj.1 h;simp only[vz]at h2;obtain⟨rfl,rfl⟩:=h2;have:=X0 hV;simp;omega
    ·split at h
     ·obtain⟨V,hV,h2⟩:=Oj.1 h;split at h2
      ·simp only[vt,vz]at h2;obtain⟨rfl,rfl⟩:=h2;have:=X0 hV;have:=xK V;simp;omega
      ·simp at h2
     ·split at h
      ·obtain⟨V,hV,h2⟩:=Oj.1 h;split at h2
       ·simp only[vt,vz]at h2;obtain⟨rfl,rfl⟩:=h2;have:=X0 hV;have:=xK V;simp;omega
       ·simp at h2
      ·obtain⟨V,hV,h2⟩:=Oj.1 h;split at h2
       ·simp only[vt,vz]at h2;obtain⟨rfl,rfl⟩:=h2;have:=X0 hV;simp at*;omega
       ·simp at h2
theorem j9 (q : UInt8) : ∀ (f g : Nat) (l : List UInt8), l.length ≤ f → l.length ≤ g → kM q f l = kM q g l
  | 0, 0, l, _, _ => rfl
  | 0, g + 1, l, h, _ => by
    have:l=[]:=A3 (by omega)
    subst this;rfl
  | f + 1, 0, l, _, h => by
    have:l=[]:=A3 (by omega)
    subst this;rfl
  | f + 1, g + 1, l, hf, hg => by
    cases l with
    | nil => rfl
    | cons c r =>
      simp only[kM]
      simp only[dI]at hf hg
      split
      · rw [j9 q f g r (by omega) (by omega)]
      · cases he : dJ q r with
        | none => rfl
        | some p =>
          obtain⟨b,n⟩:=p
          have:=wa he
          simp only
          rw[j9 q f g (r.drop n) (by simp;omega) (by simp;omega)]
def oF (q:UInt8) (I:List UInt8) (k:Nat) (bs:List UInt8):Option (List UInt8):=(kM q I.length (I.drop k)).map (bs++ ·)
theorem Je (h:I.length≤k):oF q I k bs=some bs:=by
 rw[oF,s9 h];cases I.length<;>simp[kM]
theorem Cg (h:k<I.length) (hc:an I k≠92):oF q I (k+1) (bs++[an I k])=oF q I k bs:=by
 rw[oF,oF,drop_at h];obtain⟨f,hf⟩: ∃f,I.length=f+1:=⟨I.length-1,by omega⟩;rw[hf,kM,ar hc,j9 q (f+1) f (I.drop (k+1)) (by simp;omega) (by simp;omega)];cases kM q f (I.drop (k+1))<;>simp
theorem E1 (h:k<I.length) (hc:an I k=92) (he:dJ q (I.drop (k+1))=none):oF q I k bs=none:=by
 rw[oF,drop_at h];obtain⟨f,hf⟩: ∃f,I.length=f+1:=⟨I.length-1,by omega⟩;rw[hf,kM,af (by simp[hc]),he];rfl
theorem Jf (h:k<I.length) (hc:an I k=92) (he:dJ q (I.drop (k+1))=some (b,n)):oF q I (k+1+n) (bs++b)=oF q I k bs:=by
 have hn:=wa he;rw[oF,oF,drop_at h];obtain⟨f,hf⟩: ∃f,I.length=f+1:=⟨I.length-1,by omega⟩;rw[hf,kM,af (by simp[hc]),he];simp only;rw[yF,j9 q (f+1) f (I.drop (k+1+n)) (by simp;omega) (by simp;omega)];cases kM q f (I.drop (k+1+n))<;>simp
theorem Qv (h:dJ q l=none):ri q l=([],0):=by rw[ri,h];rfl
theorem Qw (h:dJ q l=some (b,n)):ri q l=(b,n):=by rw[ri,h];rfl
def inside (l:List UInt8):List UInt8:=(l.drop 1).take (l.length-2)
theorem xN (s:ByteArray):(s.extract 1 (s.size-1)).data.toList=inside s.data.toList:=by
 rw[Lib.extract_data,inside,ab,show s.size-1-1=s.size-2 by omega]
theorem dV {w:World} (h:w.ownsRow base e 1 v k (cellsOf l)) (src dst:TypeId) (hs:P.underlying src=some (.slice e)) (he:P.underlying e=some (.int .u8)) (hd:P.underlying dst=some .string):
  (convert src dst v).run P w= .ok (.string ⟨l.toArray⟩) w:=by
 have hl:l.length=k:=by have:=h.1;simpa [cellsOf]using this
 rcases h.2 with⟨rfl,hk⟩|⟨g,cap,cur,rfl,_⟩
 ·have:l=[]:=A3 (by omega);subst this;exact run_convert_bytes_nil w src e hs he 0 0 dst hd
 ·exact ku (sb h) src dst e k cap hl.symm hs he hd
def kp (w:World) (r:Nat×List UInt8) (e:Ending) (w':World):Prop:=e= .returned (.tuple #[.string ⟨r.2.toArray⟩,.int .i64 (r.1:Int)])∧Below w.heap.size w w'
theorem Af (s:ByteArray) (w:World) (hs:s.size≤281474976710656) (hv:valid s.data.toList=false):
  Calls prog 150 #[.string s] w (kp w (4,[])):=by
 go_enter func150,ntmps150;go_wp2_with fail;refine(jV s _ hs).mono ?_;rintro e w1 ⟨rfl,hb⟩;rw[hv];have HB:=aa hb;clear hb hv;go_wp2_with fail;go_ret2;exact⟨rfl,HB⟩
theorem yg (s:ByteArray) (w:World) (hs:s.size≤281474976710656) (hv:valid s.data.toList=true) (hl:bz s.data.toList 0≠some s.data.toList.length):
  Calls prog 150 #[.string s] w (kp w (10,[])):=by
 go_enter func150,ntmps150;go_wp2_with fail;refine(jV s _ hs).mono ?_;rintro e w1 ⟨rfl,hb⟩;rw[hv];have HB:=aa hb;have HL:=aa hl;clear hb hv hl;go_wp2_with fail;refine(nM s 0 _ hs).mono ?_;rintro e w2 ⟨rfl,rfl⟩;have hl:=HL.out;clear HL;cases he:bz s.data.toList 0 with
 |none=>
  clear hl;simp only[jL,oc];go_wp2_with fail;go_ret2;exact⟨rfl,HB⟩
 |some n=>
  have hn:n≠s.size:=by rintro rfl;rw[he,ab]at hl;exact hl rfl
  have yq:((n:Int) != (s.size:Int))=true:=by rw[ju];omega
  clear hl hn;simp only[jL,oc];go_wp2_with fail;go_ret2;exact⟨rfl,HB⟩
def xC (T:Option (List UInt8)):Nat×List UInt8:=match T with|none=>(11,[])|some b=>if valid b then(0,b)else(13,[])
theorem ja (h:bz l 0=some l.length):2≤l.length∧dB (an l 0)=true:=by
 unfold bz at h;split at h
 ·rename_i hx;obtain⟨n,hn,xf⟩:=xj.1 h;have: ∀(q:UInt8) (l:List UInt8) (n:Nat),eH q l=some n→1≤n:=by
   intro q l n h;cases l with
   |nil=>simp[eH]at h
   |cons c r=>
    cases r with
    |nil=>simp only[eH]at h;split at h<;>simp at h;omega
    |cons d r=>
     simp only[eH]at h
     repeat' split at h
     all_goals first|(simp at h;done)|(simp at h;omega)|skip
  have:=this _ _ _ hn;exact⟨by omega,hx.2⟩
 ·simp at h
theorem Ag (s:ByteArray) (w:World) (hs:s.size≤281474976710) (hv:valid s.data.toList=true) (hl:bz s.data.toList 0=some s.data.toList.length) (h0:0<s.size) (hq:s[0].toNat=96):
  Calls prog 150 #[.string s] w (kp w (0,inside s.data.toList)):=by
 have h2:=(ja hl).1;rw[ab]at hl h2;have hw:IntKind.i64.wrap ((s.size:Int)-1)=(s.size:Int)-1:=by rw[oG];omega
 have yq:((s.size:Int) != (s.size:Int))=false:=by simp
 go_enter func150,ntmps150;go_wp2_with fail;refine(jV s _ (by omega)).mono ?_;rintro e w1 ⟨rfl,hb⟩;rw[hv];have HB:=aa hb;have HL:=aa hl;have HQ:=aa hq;clear hb hv hl hq;go_wp2_with fail;refine(nM s 0 _ (by omega)).mono ?_;rintro e w2 ⟨rfl,rfl⟩;rw[HL.out];simp only[jL,oc];go_wp2_with fail;go_quiet (fail);have abm:((s[0].toNat:Int)==96)=true:=by rw[HQ.out];rfl
 go_wp2_with fail;go_ret2;exact⟨by rw[←xN,mk_data];rfl,bS HB _⟩
theorem Ah (s:ByteArray) (w:World) (hs:s.size≤281474976710) (hv:valid s.data.toList=true) (hl:bz s.data.toList 0=some s.data.toList.length) (h0:0<s.size) (hq:s[0].toNat≠96) (T:Option (List UInt8)) (hT:oF s[0] (inside s.data.toList) 0 []=T):
  Calls prog 150 #[.string s] w (kp w (xC T)):=by
 have h2:=(ja hl).1;rw[ab]at hl h2;have hw:IntKind.i64.wrap ((s.size:Int)-1)=(s.size:Int)-1:=by rw[oG];omega
 have yq:((s.size:Int) != (s.size:Int))=false:=by simp
 go_enter func150,ntmps150;go_wp2_with fail;refine(jV s _ (by omega)).mono ?_;rintro e w1 ⟨rfl,hb⟩;rw[hv];have HL:=aa hl;have HQ:=aa hq;have HT:=aa hT;clear hv hl hq hT;go_wp2_with fail;refine(nM s 0 _ (by omega)).mono ?_;rintro e w2 ⟨rfl,rfl⟩;rw[HL.out];simp only[jL,oc];go_wp2_with fail;go_quiet (fail);have abm:((s[0].toNat:Int)==96)=false:=by rw[bK];have:=HQ.out;omega
 obtain⟨t,ht⟩: ∃t,t=s.extract 1 (s.size-1):=⟨_,rfl⟩;have qX:t.data.toList=inside s.data.toList:=by rw[ht,xN]
 have FG:t.size≤281474976710:=by
  rw[←ab,qX,inside];have:=List.length_take_le (s.data.toList.length-2) (s.data.toList.drop 1);rw[ab]at this;rw[ab];omega
 rw[←ht];generalize hI:inside s.data.toList=I at HT qX;have HD:=aa qX;clear ht qX hI hw yq h2;rename_i nq;have aM:=bS hb nq;clear hb;generalize w1.drewN nq=w2 at aM ⊢
 obtain⟨i0,ti,yn,db,ej⟩:=mC iT;go_wp2_with (at_make;refine wpList_make_own _ rfl (.const (.int .i64 0)) (.tmp 38) 147 rfl w.heap.size 5 i0 (.int .u8 0) 1 underlying147 ti yn db _ _ _ t.size rfl rfl rfl (by rw[ej];omega) (by unfold maxLen;omega) aM.size ?_);intro w3 vI AT;have Δ:Below w.heap.size w w3:=aM.grown AT aM.size (by simp);have sV:=aa vI;clear ti yn db ej vI AT aM;go_wp2_with fail;go_loopw [8,9] (fun v i wr=> ∃(k:Nat) (bs:List UInt8),k≤t.size∧bs.length≤k∧i= .int .i64 k∧wr.ownsRow w.heap.size 5 1 v bs.length (cellsOf bs)∧Below w.heap.size w wr∧Hid (oF s[0] I k bs=T)) (fun _ i _=>t.size-(intOf i).toNat)
 case atStart=>exact⟨0,[],aT _,aP _,rfl,sV,Δ,HT⟩
 case round=>
  obtain⟨k,bs,hk,hbs,rfl,aL,bN,hT⟩:=hrel;clear HT sV Δ;have hit:I.length=t.size:=by rw[←HD.out,ab]
  have HI:=aa hit;clear hit;by_cases au:k<t.size
  ·have Xi:k<I.length:=by rw[HI.out];exact au
   have cB:an I k=t[k]:=by rw[←HD.out];exact aq au
   cases hc:((t[k].toNat:Int) != 92)
   ·have qV:an I k=92:=by rw[cB];exact oD (n:=92) (by omega) rfl (by simpa [bne]using hc)
    have oO:(t.extract (k+1) t.size).data.toList=I.drop (k+1):=by rw[fW,HD.out]
    have hex:(t.extract (k+1) t.size).size≤281474976710656:=by simp;omega
    have HX:=aa hex;have HA:=aa cB;cases he:dJ s[0] (I.drop (k+1))with
    |none=>
     have FH:=(E1 (bs:=bs) Xi qV he).symm.trans hT;have Ln:=Qv he;rw[←oO]at Ln;have HE:=aa Ln;have SH:=aa FH;clear qV oO he FH Ln cB hex hT;go_wp2_with fail;refine(Cc (t.extract (k+1) t.size) s[0] _ HX _ w.heap.size bs.length bs aL bN.size (by omega)).mono ?_;rintro e w4 ⟨v',rfl,ho,hg⟩;rw[HE.out]at ho ⊢
     have HB:=aa (bN.grown hg bN.size (fun g tm=>(aL.lt g tm).1));clear ho hg aL bN;go_wp2_with fail;go_ret2;exact⟨by rw[←SH.out];rfl,HB⟩
    |some p=>
     obtain⟨b,n⟩:=p;have hn:=wa he;have FH:=(Jf (bs:=bs) Xi qV he).trans hT;have Ln:=Qw he;rw[←oO]at Ln;rw[mY,HI.out]at hn;obtain⟨AK,xf,hn3⟩:=hn;have yq:((n:Int)==0)=false:=by rw[bK];omega
     have HE:=aa Ln;have SH:=aa FH;clear qV oO he FH Ln cB hex hT;go_wp2_with fail;refine(Cc (t.extract (k+1) t.size) s[0] _ HX _ w.heap.size bs.length bs aL bN.size (by omega)).mono ?_;rintro e w4 ⟨v',rfl,ho,hg⟩;rw[HE.out]at ho ⊢
     have HB:=aa (bN.grown hg bN.size (fun g tm=>(aL.lt g tm).1));have HO:=aa ho;clear ho hg aL bN;go_wp2_with fail;go_roundw
     case rel=>exact⟨k+1+n,bs++b,by omega,by rw[fT];omega,by go_num,by rw[fT];exact HO,HB,SH⟩
     case measure=>simp[intOf];omega
   ·have qV:an I k≠92:=by rw[cB];exact pO (n:=92) (by omega) rfl (by simpa [bne]using hc)
    have FH:=(Cg (q:=s[0]) (bs:=bs) Xi qV).trans hT;rw[cB]at FH;have SH:=aa FH;clear qV cB FH hT;go_wp2_with (at_builtin;refine iq rfl (.tmp 50) (.tmp 54) 147 rfl w.heap.size 5 (.int .u8 0) 1 1 iT underlying147 rfl (by omega) _ bs.length _ rfl aL [.int .u8 (t[k].toNat:Int)] rfl rfl (zU rfl) (by unfold maxLen;omega) (by omega) bN.size ?_);intro v' w4 ho hg;have HB:=aa (bN.grown hg bN.size (fun g tm=>(aL.lt g tm).1));have HO:=aa ho;clear ho hg aL bN;go_wp2_with fail;go_roundw
    case rel=>exact⟨k+1,bs++[t[k]],by omega,by simp;omega,by go_num,by rw[fM,fT];exact HO,HB,SH⟩
    case measure=>simp[intOf];omega
  ·have SJ:=(Je (q:=s[0]) (bs:=bs) (k:=k) (by rw[HI.out];omega)).symm.trans hT;have HTe:=aa SJ;have IV:=dV (P:=prog) aL 147 9 underlying147 underlying5 underlying9;have jf:(⟨bs.toArray⟩:ByteArray).size≤281474976710656:=by simp[ByteArray.size];omega
   have HS:=aa jf;clear SJ hT jf;go_wp2_with fail;refine(jV ⟨bs.toArray⟩ _ HS).mono ?_;rintro e w4 ⟨rfl,fa⟩;have IY:=o3 aL fa;have ac2:=dV (P:=prog) IY 147 9 underlying147 underlying5 underlying9;have HB:=aa (bN.trans (fa.mono bN.size));clear aL IY bN fa IV;rw[show ((⟨bs.toArray⟩:ByteArray).data.toList)=bs from by simp];cases Xj:valid bs
   ·have HV:=aa Xj;clear Xj;go_wp2_with fail;go_ret2;exact⟨by rw[←HTe.out,xC];simp[HV.out],HB⟩
   ·have HV:=aa Xj;clear Xj;go_wp2_with fail;go_ret2;exact⟨by rw[←HTe.out,xC];simp[HV.out],HB⟩
theorem uC (h:2≤l.length):(inside l).length=l.length-2:=by
 rw[inside,nZ,mY];omega
theorem Ka (s:ByteArray) (w:World) (hs:s.size≤281474976710):
  Calls prog 150 #[.string s] w (kp w (lM s.data.toList)):=by
 unfold lM;cases hv:valid s.data.toList
 ·rw[ar rfl];exact Af s w (by omega) hv
 ·rw[af (by simp)];by_cases hl:bz s.data.toList 0=some s.data.toList.length
  ·rw[af (by simpa using hl)];have h2:=(ja hl).1;have h0:0<s.size:=by rw[ab]at h2;omega
   have cB:=aq h0;rw[cB];by_cases hq:s[0]=96
   ·rw[ar hq];exact Ag s w hs hv hl h0 (by rw[hq];rfl)
   ·rw[af hq];have hq':s[0].toNat≠96:=fun e=>hq (cD (n:=96) (by omega) e)
    have hT:oF s[0] (inside s.data.toList) 0 []=kM s[0] s.data.toList.length (inside s.data.toList):=by
     rw[oF,Bc,j9 s[0] (inside s.data.toList).length s.data.toList.length _ (aP _) (by rw[uC h2];omega)];cases kM s[0] s.data.toList.length (inside s.data.toList)<;>simp
    exact Ah s w hs hv hl h0 hq' _ hT
  ·rw[ar hl];exact yg s w (by omega) hv hl
theorem OJ (h:r<F):F-(intOf (.int .i64 ((r:Int)+1))).toNat<F-(intOf (.int .i64 (r:Int))).toNat:=by
 have h1:(intOf (.int .i64 ((r:Int)+1))).toNat=r+1:=rfl;have h2:(intOf (.int .i64 (r:Int))).toNat=r:=rfl;rw[h1,h2];exact Nat.sub_lt_sub_left h (vw r)
theorem iw {fn:Func} {a b c:Tmp} (h:fn.results= #[.tmp a,.tmp b,.tmp c]) (tmps:Array Value) (P:Program) (w:World):
  (results fn tmps).run P w= .ok (.tuple #[tmps.getD a undef,tmps.getD b undef,tmps.getD c undef]) w:=by
 simp[results,h]
theorem Ch {P:UInt8→Prop} (h: ∀n:Fin 256,P (UInt8.ofNat n.val)) (c:UInt8):P c:=by
 have:=h ⟨c.toNat,c.toNat_lt⟩;simpa using this
theorem IZ {k:IntKind} {a b:Int} (h:a=b):Value.int k a=Value.int k b:=by rw[h]
theorem Qx (c:UInt8) (w:World):
  Calls prog 136 #[.int .u8 (c.toNat:Int)] w fun e w'=>e= .returned (.bool (digit c))∧w=w':=by
 go_enter func136,ntmps136;go_wp2
 all_goals (go_ret;exact⟨ah (by rw[eE];simp[digit];omega),rfl⟩)
theorem OK (s:ByteArray) (i:Nat) (w:World) (hs:s.size≤281474976710656) (hi:i≤281474976710656):
  Calls prog 121 #[.string s,.int .i64 (i:Int)] w fun e w'=>e= .returned (.int .i64 (ae digit s.data.toList i:Nat))∧w=w':=by
 go_enter func121,ntmps121;go_wp2_with fail;go_loop [1] (fun t=> ∃k:Nat,k≤562949953421312∧t= .int .i64 k∧Hid (ae digit s.data.toList k=ae digit s.data.toList i)) (fun t=>s.size-(intOf t).toNat)
 case atStart=>exact⟨i,by omega,rfl,rfl⟩
 case round=>
  obtain⟨k,hk,rfl,gJ⟩:=hrel;by_cases au:k<s.size
  ·cases hd:digit s[k]
   all_goals
    go_wp2_with (go_at_call 136;refine(Qx _ _).mono ?_;rintro e w' ⟨rfl,rfl⟩;rw[hd])
   ·go_ret;exact⟨aE (by rw[←gJ.out,gC au hd]),rfl⟩
   ·exact⟨⟨k+1,by omega,by go_num,aa ((gB au hd).trans gJ)⟩,OJ au⟩
  ·go_wp2_with fail;go_ret;exact⟨aE (by rw[←gJ.out,bO (by simpa using au)]),rfl⟩
def PD (u:Nat×Nat) (j:Nat):Value:=if u.1=7 then .tuple #[.int .i64 0,.int .i64 0,.int .i64 0]else .tuple #[.int .i64 ((u.2-j:Nat):Int),.int .i64 (dc u.1:Int),.int .i64 ((u.1+1:Nat):Int)]
theorem Jg (s:ByteArray) (i:Nat) (w:World) (hs:s.size≤281474976710656) (hi:i≤281474976710656):
  Calls prog 122 #[.string s,.int .i64 (i:Int)] w fun e w'=>e= .returned (PD (aJ s.data.toList i) i)∧w=w':=by
 obtain⟨V,hV⟩: ∃V,V=PD (aJ s.data.toList i) i:=⟨_,rfl⟩;rw[←hV];have HV:=aa hV;clear hV;by_cases au:i<s.size
 ·have cB:=aq au;by_cases hm:s[i].toNat=109
  ·have P3:an s.data.toList i=109:=by rw[cB];exact cD (n:=109) (by omega) hm
   by_cases h2:i+1<s.size
   ·have pP:=aq h2;by_cases h3:s[i+1].toNat=115
    ·have hE:=E0 (l:=s.data.toList) (i:=i) (by rw[ab];exact h2) P3 (by rw[pP];exact cD (n:=115) (by omega) h3);have FI:Hid (V= .tuple #[.int .i64 2,.int .i64 1,.int .i64 7]):=aa (by rw[HV.out,hE];simp[PD,dc]);have hc:((s[i].toNat:Int)==109)=true:=cn.2 (by omega);have Se:((s[i+1].toNat:Int)==115)=true:=cn.2 (by omega);clear hE P3 cB pP HV hm h3;go_enter func122,ntmps122;go_wp2_with fail;refine cz (iw rfl _ _ _) rfl ?_;exact⟨by rw[FI.out];rfl,rfl⟩
    ·have hE:=ie (l:=s.data.toList) (i:=i) (k:=4) (by rw[ab];exact au) (by rintro⟨_,_,h⟩;rw[pP]at h;rw[h]at h3;exact h3 rfl) (by omega) (by rw[P3];rfl);have FI:Hid (V= .tuple #[.int .i64 1,.int .i64 60000,.int .i64 5]):=aa (by rw[HV.out,hE];simp[PD,dc]);have hc:((s[i].toNat:Int)==109)=true:=cn.2 (by omega);have Se:((s[i+1].toNat:Int)==115)=false:=bK.2 (by omega);clear hE P3 cB pP HV hm h3;go_enter func122,ntmps122;go_wp2_with fail;refine cz (iw rfl _ _ _) rfl ?_;exact⟨by rw[FI.out];rfl,rfl⟩
   ·have hE:=ie (l:=s.data.toList) (i:=i) (k:=4) (by rw[ab];exact au) (by rintro⟨_,h,_⟩;rw[ab]at h;exact h2 h) (by omega) (by rw[P3];rfl);have FI:Hid (V= .tuple #[.int .i64 1,.int .i64 60000,.int .i64 5]):=aa (by rw[HV.out,hE];simp[PD,dc]);have hc:((s[i].toNat:Int)==109)=true:=cn.2 (by omega);clear hE P3 cB HV hm;go_enter func122,ntmps122;go_wp2_with fail;refine cz (iw rfl _ _ _) rfl ?_;exact⟨by rw[FI.out];rfl,rfl⟩
  ·have hn: ¬(an s.data.toList i=109∧i+1<s.data.toList.length∧an s.data.toList (i+1)=115):=by
    rintro⟨h,_⟩;rw[cB]at h;exact hm (by rw[h];rfl)
   have hc4:((s[i].toNat:Int)==109)=false:=bK.2 (by omega);by_cases hk:s[i].toNat=121∨s[i].toNat=119∨s[i].toNat=100∨s[i].toNat=104∨s[i].toNat=115
   ·rcases hk with hk|hk|hk|hk|hk
    ·have hE:=ie (l:=s.data.toList) (i:=i) (k:=0) (by rw[ab];exact au) hn (by omega) (by rw[cB];exact(cD (n:=121) (by omega) hk).symm);have FI:Hid (V= .tuple #[.int .i64 1,.int .i64 31536000000,.int .i64 1]):=aa (by rw[HV.out,hE];simp[PD,dc]);have SK:((s[i].toNat:Int)==121)=true:=cn.2 (by omega);clear hE cB HV hm hk hn;go_enter func122,ntmps122;go_wp2_with fail;refine cz (iw rfl _ _ _) rfl ?_;exact⟨by rw[FI.out];rfl,rfl⟩
    ·have hE:=ie (l:=s.data.toList) (i:=i) (k:=1) (by rw[ab];exact au) hn (by omega) (by rw[cB];exact(cD (n:=119) (by omega) hk).symm);have FI:Hid (V= .tuple #[.int .i64 1,.int .i64 604800000,.int .i64 2]):=aa (by rw[HV.out,hE];simp[PD,dc]);have SK:((s[i].toNat:Int)==121)=false:=bK.2 (by omega);have lX:((s[i].toNat:Int)==119)=true:=cn.2 (by omega);clear hE cB HV hm hk hn;go_enter func122,ntmps122;go_wp2_with fail;refine cz (iw rfl _ _ _) rfl ?_;exact⟨by rw[FI.out];rfl,rfl⟩
    ·have hE:=ie (l:=s.data.toList) (i:=i) (k:=2) (by rw[ab];exact au) hn (by omega) (by rw[cB];exact(cD (n:=100) (by omega) hk).symm);have FI:Hid (V= .tuple #[.int .i64 1,.int .i64 86400000,.int .i64 3]):=aa (by rw[HV.out,hE];simp[PD,dc]);have SK:((s[i].toNat:Int)==121)=false:=bK.2 (by omega);have lX:((s[i].toNat:Int)==119)=false:=bK.2 (by omega);have ng:((s[i].toNat:Int)==100)=true:=cn.2 (by omega);clear hE cB HV hm hk hn;go_enter func122,ntmps122;go_wp2_with fail;refine cz (iw rfl _ _ _) rfl ?_;exact⟨by rw[FI.out];rfl,rfl⟩
    ·have hE:=ie (l:=s.data.toList) (i:=i) (k:=3) (by rw[ab];exact au) hn (by omega) (by rw[cB];exact(cD (n:=104) (by omega) hk).symm);have FI:Hid (V= .tuple #[.int .i64 1,.int .i64 3600000,.int .i64 4]):=aa (by rw[HV.out,hE];simp[PD,dc]);have SK:((s[i].toNat:Int)==121)=false:=bK.2 (by omega);have lX:((s[i].toNat:Int)==119)=false:=bK.2 (by omega);have ng:((s[i].toNat:Int)==100)=false:=bK.2 (by omega);have Se:((s[i].toNat:Int)==104)=true:=cn.2 (by omega);clear hE cB HV hm hk hn;go_enter func122,ntmps122;go_wp2_with fail;refine cz (iw rfl _ _ _) rfl ?_;exact⟨by rw[FI.out];rfl,rfl⟩
    ·have hE:=ie (l:=s.data.toList) (i:=i) (k:=5) (by rw[ab];exact au) hn (by omega) (by rw[cB];exact(cD (n:=115) (by omega) hk).symm);have FI:Hid (V= .tuple #[.int .i64 1,.int .i64 1000,.int .i64 6]):=aa (by rw[HV.out,hE];simp[PD,dc]);have SK:((s[i].toNat:Int)==121)=false:=bK.2 (by omega);have lX:((s[i].toNat:Int)==119)=false:=bK.2 (by omega);have ng:((s[i].toNat:Int)==100)=false:=bK.2 (by omega);have Se:((s[i].toNat:Int)==104)=false:=bK.2 (by omega);have hc5:((s[i].toNat:Int)==115)=true:=cn.2 (by omega);clear hE cB HV hm hk hn;go_enter func122,ntmps122;go_wp2_with fail;refine cz (iw rfl _ _ _) rfl ?_;exact⟨by rw[FI.out];rfl,rfl⟩
   ·have hE:=yV (l:=s.data.toList) (i:=i) (by rw[ab];exact au) hn (by
     intro k hk6 he;rw[cB]at he;rw[←he]at hk hm;revert hk hm
     match k,hk6 with
     |0,_|1,_|2,_|3,_|4,_|5,_=>decide)
    have FI:Hid (V= .tuple #[.int .i64 0,.int .i64 0,.int .i64 0]):=aa (by rw[HV.out,hE];rfl);have SK:((s[i].toNat:Int)==121)=false:=bK.2 (by omega);have lX:((s[i].toNat:Int)==119)=false:=bK.2 (by omega);have ng:((s[i].toNat:Int)==100)=false:=bK.2 (by omega);have Se:((s[i].toNat:Int)==104)=false:=bK.2 (by omega);have hc5:((s[i].toNat:Int)==115)=false:=bK.2 (by omega);clear hE cB HV hm hk hn;go_enter func122,ntmps122;go_wp2_with fail;refine cz (iw rfl _ _ _) rfl ?_;exact⟨by rw[FI.out];rfl,rfl⟩
 ·have hE:=Cd (l:=s.data.toList) (i:=i) (by rw[ab];omega);have FI:Hid (V= .tuple #[.int .i64 0,.int .i64 0,.int .i64 0]):=aa (by rw[HV.out,hE];rfl);clear hE HV;go_enter func122,ntmps122;go_wp2_with fail;refine cz (iw rfl _ _ _) rfl ?_;exact⟨by rw[FI.out];rfl,rfl⟩
def manyN (l:List UInt8) (E:Nat):Nat:=if 315360000000000/E<sat l then 315360000000001 else sat l*E
theorem Jh: ∀(l:List UInt8) (n:Nat),n≤315360000000001→n≤qH n l
 |[],_,_=>aP _
 |c::r,n,h=>by
  rw[ql];have h1:=Jh r (iU n c) (uB n c);have h2:n≤iU n c:=by unfold iU;omega
  omega
theorem UF (s:ByteArray) (E:Nat) (w:World) (hs:s.size≤281474976710656) (PC:1≤E) (hE2:E≤31536000000) (hd: ∀k (h:k<s.size),48≤s[k].toNat∧s[k].toNat≤57):
  Calls prog 125 #[.string s,.int .i64 (E:Int)] w fun e w'=>e= .returned (.int .i64 (manyN s.data.toList E:Nat))∧w=w':=by
 have HD:=aa hd;obtain⟨V,hV⟩: ∃V,V=manyN s.data.toList E:=⟨_,rfl⟩;rw[←hV];have HV:=aa hV;obtain⟨q,hq⟩: ∃q,q=315360000000000/E:=⟨_,rfl⟩;have Eg:q≤315360000000000:=by rw[hq];exact Nat.div_le_self _ _
 have tY:q*E≤315360000000000:=by rw[hq];exact II _ _
 have WC:(315360000000000:Int)/(E:Int)=(q:Int):=by rw[hq,Int.natCast_ediv];rfl
 have yn:((E:Int)==0)=false:=by rw[bK];omega
 have HQ:=aa hq;have HQ2:=aa tY;clear hd hV hq tY;go_enter func125,ntmps125;go_wp2_with fail;go_loop [5,6] (fun v i=> ∃k n:Nat,k≤s.size∧i= .int .i64 k∧v= .int .i64 n∧n≤q∧Hid (qH n (s.data.toList.drop k)=sat s.data.toList)) (fun _ i=>s.size-(intOf i).toNat)
 case atStart=>exact⟨0,0,aT _,by go_num,by go_num,by omega,aa (by rw[Bc,sat])⟩
 case round=>
  obtain⟨k,n,hk,rfl,rfl,hn,gJ⟩:=hrel;by_cases au:k<s.size
  ·have cA:qH (iU n s[k]) (s.data.toList.drop (k+1))=sat s.data.toList:=by
    have h1:=drop_at (l:=s.data.toList) (i:=k) (by rw[ab];exact au);rw[aq au]at h1;exact(ql _ _ _).symm.trans ((bT (qH n) h1).symm.trans gJ)
   obtain⟨h1,h2⟩:=HD k au;have Sa:=Jh (s.data.toList.drop (k+1)) (iU n s[k]) (uB n _);rw[cA]at Sa;rw[iU]at cA Sa;clear gJ;by_cases hb:q<n*10+(s[k].toNat-48)
   ·have hVV:V=315360000000001:=by rw[HV.out,manyN,←HQ.out,ar (by omega)]
    have HVV:=aa hVV;have hB:((q:Int)<(n:Int)*10+((s[k].toNat:Int)-48))=True:=az (by omega);clear cA hb hVV Sa;go_wp2_with fail;go_ret;exact⟨aE (by rw[HVV.out];rfl),rfl⟩
   ·rw[mr (by omega)]at cA;have HS:=aa cA;have hB:((q:Int)<(n:Int)*10+((s[k].toNat:Int)-48))=False:=bL (by omega);clear cA Sa;go_wp2_with fail;exact⟨⟨k+1,n*10+(s[k].toNat-48),by omega,by go_num,by go_num,by omega,HS⟩,OJ au⟩
  ·have cA:sat s.data.toList=n:=by rw[←gJ.out,s9 (by rw[ab];omega)];rfl
   have hVV:V=n*E:=by rw[HV.out,manyN,←HQ.out,cA,af (by omega)]
   have HVV:=aa hVV;have hmul:n*E≤315360000000000:=bn (fc _ hn) HQ2;have φ:(n:Int)*(E:Int)≤315360000000000:=by rw[←yD];omega
   have agq:0≤(n:Int)*(E:Int):=by rw[←yD];omega
   clear cA gJ hVV hmul;go_wp2_with fail;go_ret;exact⟨aE (by rw[HVV.out,yD]),rfl⟩
def gu (n:Int):List UInt8:=if 0≤n∧ba n.toNat=true then fO n.toNat else[]
def gP (l:List UInt8) (i:Nat) (n0:Int):Nat→Int
 |0=>n0
 |j+1=>gP l i n0 j*64+((an l (i+(j+1))).toNat:Int)-128
def F0 (w:Nat):Int:=if w=2 then 192 else if w=3 then 224 else if w=4 then 240 else 0
def jQ (l:List UInt8) (i w:Nat):Int:=gP l i (((an l i).toNat:Int)-F0 w) (w-1)
theorem Θ (l:List UInt8) (i:Nat): ∀(w:Nat),i+w≤l.length→(l.drop i).take w=(List.range w).map fun j=>an l (i+j)
 |0,_=>by simp
 |w+1,h=>by
  rw[rp,mZ,←Θ l i w (by omega),jM (by simp;omega)]
  congr 1
  simp only[mv,oI,vs];rw[an,lf,lB (by omega)];rfl
theorem ofNat_eq (h:x<256):UInt8.ofNat x=c↔x=c.toNat:=by
 rw[eq_comm,yH h,eq_comm]
theorem Yu (c:UInt8):gu (c.toNat:Int)=[c]↔c.toNat<128:=by
 have hc:c.toNat<256:=c.toNat_lt;unfold gu fO;simp only[mq];constructor
 ·intro h;rcases dD c.toNat 128 with h1|h1
  ·exact h1
  ·rw[ar ⟨by omega,by simp[ba];omega⟩,af (by omega),ar (by omega)]at h;simp at h
 ·intro h;rw[ar ⟨by omega,by simp[ba];omega⟩,ar h,ny];exact⟨(ofNat_eq hc).2 rfl,rfl⟩
theorem Yv (b c:UInt8):gu (((b.toNat:Int)-192)*64+(c.toNat:Int)-128)=[b,c]↔(194≤b.toNat∧b.toNat≤223∧128≤c.toNat∧c.toNat≤191):=by
 have hb:b.toNat<256:=b.toNat_lt;have hc:c.toNat<256:=c.toNat_lt;obtain⟨n,hn⟩: ∃n:Int,n=((b.toNat:Int)-192)*64+(c.toNat:Int)-128:=⟨_,rfl⟩;rw[←hn];unfold gu;by_cases h0:0≤n∧ba n.toNat=true
 ·rw[ar h0];obtain⟨m,rfl⟩: ∃m:Nat,n=m:=⟨n.toNat,by omega⟩;rw[mq]at h0 ⊢
  unfold fO;split
  ·simp;omega
  ·split
   ·rw[ny,ny,ofNat_eq (by omega),ofNat_eq (by omega)];simp only[jw];constructor
    ·rintro⟨h1,h2⟩;omega
    ·intro h;omega
   ·split
    ·simp;omega
    ·simp;omega
 ·rw[af h0];simp only[List.nil_eq,reduceCtorEq,false_iff];intro h;refine h0 ⟨by omega,?_⟩;simp[ba];omega
theorem Yw (b c d:UInt8):gu (((((b.toNat:Int)-224)*64+(c.toNat:Int)-128))*64+(d.toNat:Int)-128)=[b,c,d]↔
  (224≤b.toNat∧b.toNat≤239∧128≤c.toNat∧c.toNat≤191∧128≤d.toNat∧d.toNat≤191∧(b.toNat=224→160≤c.toNat)∧(b.toNat=237→c.toNat≤159)):=by
 have hb:b.toNat<256:=b.toNat_lt;have hc:c.toNat<256:=c.toNat_lt;have hd:d.toNat<256:=d.toNat_lt;obtain⟨n,hn⟩: ∃n:Int,n=((((b.toNat:Int)-224)*64+(c.toNat:Int)-128))*64+(d.toNat:Int)-128:=⟨_,rfl⟩;rw[←hn];unfold gu;by_cases h0:0≤n∧ba n.toNat=true
 ·rw[ar h0];obtain⟨m,rfl⟩: ∃m:Nat,n=m:=⟨n.toNat,by omega⟩;rw[mq]at h0 ⊢
  have hr:=h0.2;simp[ba]at hr;unfold fO;split
  ·simp;omega
  ·split
   ·simp;omega
   ·split
    ·rw[ny,ny,ny,ofNat_eq (by omega),ofNat_eq (by omega),ofNat_eq (by omega)];simp only[jw];constructor
     ·rintro⟨h1,h2,h3⟩;omega
     ·intro h;omega
    ·simp;omega
 ·rw[af h0];simp only[List.nil_eq,reduceCtorEq,false_iff];intro h;refine h0 ⟨by omega,?_⟩;simp[ba];omega
theorem Yx (b c d e:UInt8):gu ((((((b.toNat:Int)-240)*64+(c.toNat:Int)-128))*64+(d.toNat:Int)-128)*64+(e.toNat:Int)-128)=[b,c,d,e]↔
  (240≤b.toNat∧b.toNat≤244∧128≤c.toNat∧c.toNat≤191∧128≤d.toNat∧d.toNat≤191∧128≤e.toNat∧e.toNat≤191∧(b.toNat=240→144≤c.toNat)∧(b.toNat=244→c.toNat≤143)):=by
 have hb:b.toNat<256:=b.toNat_lt;have hc:c.toNat<256:=c.toNat_lt;have hd:d.toNat<256:=d.toNat_lt;have he:e.toNat<256:=e.toNat_lt;obtain⟨n,hn⟩: ∃n:Int,n=(((((b.toNat:Int)-240)*64+(c.toNat:Int)-128))*64+(d.toNat:Int)-128)*64+(e.toNat:Int)-128:=⟨_,rfl⟩;rw[←hn];unfold gu;by_cases h0:0≤n∧ba n.toNat=true
 ·rw[ar h0];obtain⟨m,rfl⟩: ∃m:Nat,n=m:=⟨n.toNat,by omega⟩;rw[mq]at h0 ⊢
  have hr:=h0.2;simp[ba]at hr;unfold fO;split
  ·simp;omega
  ·split
   ·simp;omega
   ·split
    ·simp;omega
    ·rw[ny,ny,ny,ny,ofNat_eq (by omega),ofNat_eq (by omega),ofNat_eq (by omega),ofNat_eq (by omega)];simp only[jw];constructor
     ·rintro⟨h1,h2,h3,h4⟩;omega
     ·intro h;omega
 ·rw[af h0];simp only[List.nil_eq,reduceCtorEq,false_iff];intro h;refine h0 ⟨by omega,?_⟩;simp[ba];omega
theorem ac3 (n b c d e:Nat):(¬Lib.decodeN n b c d e=(65533,1)∧(Lib.decodeN n b c d e).2=1)↔b<128:=by
 unfold Lib.decodeN
 repeat' split
 all_goals first|(simp;done)|(simp;omega)
theorem ac4 (n b c d e:Nat) (hn:2≤n) (hb:b<256) (hc:c<256):(¬Lib.decodeN n b c d e=(65533,1)∧(Lib.decodeN n b c d e).2=2)↔(194≤b∧b≤223∧128≤c∧c≤191):=by
 unfold Lib.decodeN
 repeat' split
 all_goals first|(simp;done)|(simp;omega)
theorem ac5 (n b c d e:Nat) (hn:3≤n) (hb:b<256) (hc:c<256) (hd:d<256):(¬Lib.decodeN n b c d e=(65533,1)∧(Lib.decodeN n b c d e).2=3)↔
  (224≤b∧b≤239∧128≤c∧c≤191∧128≤d∧d≤191∧(b=224→160≤c)∧(b=237→c≤159)):=by
 unfold Lib.decodeN
 repeat' split
 all_goals first|(simp;done)|(simp;omega)
theorem ac6 (n b c d e:Nat) (hn:4≤n) (hb:b<256) (hc:c<256) (hd:d<256) (he:e<256):(¬Lib.decodeN n b c d e=(65533,1)∧(Lib.decodeN n b c d e).2=4)↔
  (240≤b∧b≤244∧128≤c∧c≤191∧128≤d∧d≤191∧128≤e∧e≤191∧(b=240→144≤c)∧(b=244→c≤143)):=by
 unfold Lib.decodeN
 repeat' split
 all_goals first|(simp;done)|(simp;omega)
theorem agr (l:List UInt8) (i:Nat):(dec l i).2≤4:=by
 unfold dec Lib.decodeN
 repeat' split
 all_goals simp
theorem OL (h:i+w≤l.length) (h1:1≤w) (h4:w≤4):gu (jQ l i w)=(l.drop i).take w↔(bad l i=false∧(dec l i).2=w):=by
 have DF:bad l i=false↔ ¬dec l i=(65533,1):=by unfold bad;rw[bK]
 rw[DF,Θ l i w h,dec];have e0:l.getD i 0=an l i:=rfl;have e1:l.getD (i+1) 0=an l (i+1):=rfl;have e2:l.getD (i+2) 0=an l (i+2):=rfl;have e3:l.getD (i+3) 0=an l (i+3):=rfl;rw[e0,e1,e2,e3];have t0:(an l i).toNat<256:=(an l i).toNat_lt;have t1:(an l (i+1)).toNat<256:=(an l (i+1)).toNat_lt;have t2:(an l (i+2)).toNat<256:=(an l (i+2)).toNat_lt;have t3:(an l (i+3)).toNat<256:=(an l (i+3)).toNat_lt;have hw:w=1∨w=2∨w=3∨w=4:=by omega
 rcases hw with rfl|rfl|rfl|rfl
 ·rw[ac3,←Yu];simp[jQ,gP,F0,rp]
 ·rw[ac4 _ _ _ _ _ (by omega) t0 t1,←Yv];simp[jQ,gP,F0,rp]
 ·rw[ac5 _ _ _ _ _ (by omega) t0 t1 t2,←Yw];simp[jQ,gP,F0,rp]
 ·rw[ac6 _ _ _ _ _ (by omega) t0 t1 t2 t3,←Yx];simp[jQ,gP,F0,rp]
def tH (l:List UInt8) (i:Nat):Nat:=if bad l i=true then 0 else(dec l i).2
theorem Qy (h:i+w≤l.length) (h1:1≤w) (h4:w≤4) (hh:gu (jQ l i w)=(l.drop i).take w):tH l i=w:=by
 obtain⟨hb,hw⟩:=(OL h h1 h4).1 hh;rw[tH,hb,af (by simp),hw]
theorem MB (hi:i<l.length) (hw:w=5∨l.length<i+w) (hh: ∀v,1≤v→v<w→gu (jQ l i v)≠(l.drop i).take v):tH l i=0:=by
 unfold tH;cases hb:bad l i
 ·exfalso;have h1:=vO l i;have h2:=TC l i hi;have h3:=agr l i;exact hh _ h1 (by omega) ((OL h2 h1 h3).2 ⟨hb,rfl⟩)
 ·rw[ar rfl]
theorem UG (l:List UInt8) (i:Nat) (n0:Int) (h: -255≤n0∧n0≤255): ∀j,j≤3→ -100000000≤gP l i n0 j∧gP l i n0 j≤100000000:=by
 have hb: ∀k,(an l k).toNat<256:=fun k=>(an l k).toNat_lt
 intro j hj;have hc:j=0∨j=1∨j=2∨j=3:=by omega
 have b1:=hb (i+(0+1));have b2:=hb (i+(1+1));have b3:=hb (i+(2+1));rcases hc with rfl|rfl|rfl|rfl<;>simp only[gP]<;>omega
theorem Qz (n:Int):(gu n).length≤4:=by
 unfold gu;split
 ·exact(xK _).2
 ·simp
