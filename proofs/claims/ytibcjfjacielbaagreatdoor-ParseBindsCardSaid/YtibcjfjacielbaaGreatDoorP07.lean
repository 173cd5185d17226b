import Derived.Deep.QuietTactic
import Derived.BigQuiet
import Derived.Test.YtibcjfjacielbaaGreatDoorP06
/- Part of the proof of YtibcjfjacielbaaGreatDoorCardP: SpanA SpanB SpanC UtfE. -/
set_option maxRecDepth 100000
set_option maxHeartbeats 4000000
set_option linter.unusedVariables false
set_option linter.unusedSimpArgs false
namespace Go.Proofs.YtibcjfjacielbaaGreatDoor
open Go.RowKit
theorem span_digit (c:UInt8) (w:World):
  Calls Tryz.prog 279 #[.int .u8 (c.toNat:Int)] w fun e w'=>e= .returned (.bool (digit c))∧w=w':=by
 go_enter Tryz.func279,Tryz.ntmps279;go_wp2
 all_goals (go_ret;exact⟨ret_bool (by rw[Bool.eq_iff_iff];simp[digit];omega),rfl⟩)
theorem span_run (s:ByteArray) (x:Int) (i:Nat) (hx:x=(i:Int)) (w:World) (hs:s.size≤281474976710656) (hi:i≤281474976710656):
  Calls Tryz.prog 259 #[.string s,.int .i64 x] w fun e w'=>e= .returned (.int .i64 (spanEnd digit s.data.toList i:Nat))∧w=w':=by
 subst hx;go_enter Tryz.func259,Tryz.ntmps259;go_wp2_with fail;go_loop [1] (fun t=> ∃k:Nat,k≤562949953421312∧t= .int .i64 k∧Hid (spanEnd digit s.data.toList k=spanEnd digit s.data.toList i)) (fun t=>s.size-(intOf t).toNat)
 case atStart=>exact⟨i,by omega,rfl,rfl⟩
 case round=>
  obtain⟨k,hk,rfl,hsp⟩:=hrel;by_cases hlt:k<s.size
  ·cases hd:digit s[k]
   all_goals
    go_wp2_with (go_at_call 279;refine(span_digit _ _).mono ?_;rintro e w' ⟨rfl,rfl⟩)
   ·go_ret;exact⟨ret_int (by rw[←hsp.out,spanEnd_stopB hlt hd]),rfl⟩
   ·go_round
    case rel=>exact⟨k+1,by omega,by go_num,(spanEnd_stepB hlt hd).trans hsp.out⟩
    case measure=>simp[intOf];omega
  ·go_wp2_with fail;go_ret;exact⟨ret_int (by rw[←hsp.out,spanEnd_end (by simpa using hlt)]),rfl⟩
theorem span_name (x : Int) (k : Nat) (hx : x = (k : Int)) (hk : k < 6) (w : World) :
    Calls Tryz.prog 280 #[.int .i64 x] w fun e w'=>e= .returned (.string ⟨#[uLet k]⟩)∧w=w':=by
  subst hx
  match k,hk with
  | 0, _ | 1, _ | 2, _ | 3, _ | 4, _ | 5, _ =>
    go_enter Tryz.func280,Tryz.ntmps280
    go_wp2_with fail
    go_ret
    exact⟨rfl,rfl⟩
theorem span_size (x : Int) (u : Nat) (hx : x = (u : Int)) (hu : u ≤ 6) (w : World) :
    Calls Tryz.prog 262 #[.int .i64 x] w fun e w'=>e= .returned (.int .i64 (uSize u:Nat))∧w=w':=by
  subst hx
  match u,hu with
  | 0, _ | 1, _ | 2, _ | 3, _ | 4, _ | 5, _ | 6, _ =>
    go_enter Tryz.func262,Tryz.ntmps262
    go_wp2_with fail
    go_ret
    exact⟨rfl,rfl⟩
theorem span_saturated (s:ByteArray) (w:World) (hs:s.size≤281474976710656) (hd: ∀k (h:k<s.size),48≤s[k].toNat∧s[k].toNat≤57):
  Calls Tryz.prog 261 #[.string s] w fun e w'=>e= .returned (.int .i64 (sat s.data.toList:Nat))∧w=w':=by
 have HD:=Lib.hid hd;clear hd;go_enter Tryz.func261,Tryz.ntmps261;go_wp2_with fail;go_loop [3,4] (fun v i=> ∃k n:Nat,k≤s.size∧i= .int .i64 k∧v= .int .i64 n∧(n:Int)≤315360000000001∧Hid (satGo n (s.data.toList.drop k)=sat s.data.toList)) (fun _ i=>s.size-(intOf i).toNat)
 case atStart=>exact⟨0,0,Nat.zero_le _,by go_num,by go_num,by omega,Lib.hid (by rw[List.drop_zero,sat])⟩
 case round=>
  obtain⟨k,n,hk,rfl,rfl,hn,hsp⟩:=hrel;by_cases hlt:k<s.size
  ·have hst:satGo (satStep n s[k]) (s.data.toList.drop (k+1))=sat s.data.toList:=by
    have h1:=drop_at (l:=s.data.toList) (i:=k) (by rw[len_data];exact hlt);rw[atB_lt hlt]at h1;exact(satGo_cons _ _ _).symm.trans ((congrArg (satGo n) h1).symm.trans hsp.out)
   rw[satStep]at hst;obtain⟨h1,h2⟩:=HD.out k hlt;clear hsp;by_cases hb:(315360000000001:Int)<(n:Int)*10+((s[k].toNat:Int)-48)
   ·rw[Nat.min_eq_right (by omega)]at hst;have HS:=Lib.hid hst;have hB:((315360000000001:Int)<(n:Int)*10+((s[k].toNat:Int)-48))=True:=by simp[hb]
    clear hst hb;go_wp2_with fail;go_round
    case rel=>exact⟨k+1,315360000000001,by omega,by go_num,by go_num,by omega,HS.out⟩
    case measure=>simp[intOf];omega
   ·rw[Nat.min_eq_left (by omega)]at hst;have HS:=Lib.hid hst;have hB:((315360000000001:Int)<(n:Int)*10+((s[k].toNat:Int)-48))=False:=by simp[hb]
    clear hst;go_wp2_with fail;go_round
    case rel=>exact⟨k+1,n*10+(s[k].toNat-48),by omega,by go_num,by go_num,by omega,HS.out⟩
    case measure=>simp[intOf];omega
  ·have hst:sat s.data.toList=n:=by rw[←hsp.out,List.drop_eq_nil_of_le (by rw[len_data];omega)];rfl
   have HS:=Lib.hid hst;clear hst hsp;go_wp2_with fail;go_ret;exact⟨ret_int (by rw[HS.out]),rfl⟩
def Two (w:World) (r:Nat×Nat) (e:Ending) (w':World):Prop:=e= .returned (.tuple #[.int .i64 (r.1:Nat),.int .i64 (r.2:Nat)])∧Below w.heap.size w w'
theorem unitAt_out {l:List UInt8} {i:Nat} (h:l.length≤i):unitAt l i=(7,i):=by rw[unitAt,if_pos h]
theorem unitAt_ms {l:List UInt8} {i:Nat} (h:i+1<l.length) (h1:atB l i=109) (h2:atB l (i+1)=115):unitAt l i=(6,i+2):=by
 rw[unitAt,if_neg (by omega),if_pos ⟨h1,h,h2⟩]
theorem unitAt_hit {l:List UInt8} {i k:Nat} (h:i<l.length) (hn: ¬(atB l i=109∧i+1<l.length∧atB l (i+1)=115)) (hk:k<6) (hh:uLet k=atB l i):unitAt l i=(k,i+1):=by
 rw[unitAt,if_neg (by omega),if_neg hn,uOf_hit hk hh,if_neg (by omega)]
theorem unitAt_miss {l:List UInt8} {i:Nat} (h:i<l.length) (hn: ¬(atB l i=109∧i+1<l.length∧atB l (i+1)=115)) (hh: ∀k,k<6→uLet k≠atB l i):unitAt l i=(7,i):=by
 rw[unitAt,if_neg (by omega),if_neg hn,uOf_miss hh,if_pos rfl]
theorem span_unitAt_loop (s:ByteArray) (x:Int) (i:Nat) (hx:x=(i:Int)) (w:World) (hs:s.size≤281474976710656) (hi:i<s.size) (hn: ¬(atB s.data.toList i=109∧i+1<s.data.toList.length∧atB s.data.toList (i+1)=115))
  (hb:(((s[i].toNat:Int)==109)=false)∨(((s[i].toNat:Int)==109)=true∧((i:Int)+1<s.size)=False)∨(∃h:i+1<s.size,((s[i].toNat:Int)==109)=true∧((s[i+1].toNat:Int)==115)=false)):
  Calls Tryz.prog 260 #[.string s,.int .i64 x] w (Two w (unitAt s.data.toList i)):=by
 subst hx;have HN:=Lib.hid hn;clear hn;go_enter Tryz.func260,Tryz.ntmps260;have hi2:((i:Int)<(s.size:Int))=True:=by simp;omega
 rcases hb with hb|⟨hb,hb2⟩|⟨h,hb,hb2⟩
 all_goals
  go_wp2_with fail;go_loopw [6] (fun t wr=> ∃k:Nat,k≤6∧t= .int .i64 k∧Below w.heap.size w wr∧Hid (∀j,j<k→uLet j≠s[i])) (fun t _=>6-(intOf t).toNat)
  case atStart=>exact⟨0,by omega,rfl,Below.refl _ _,fun j hj=>absurd hj (by omega)⟩
  case round=>
   obtain⟨k,hk,rfl,hbel,hmiss⟩:=hrel;by_cases hlt:k<6
   ·go_wp2_with fail;go_quiet ((go_at_call 280;exact Calls.quiet_of_same ((span_name _ k rfl hlt _).mono fun _ _ ⟨h1,h2⟩=>⟨h1,h2.symm⟩)));have hbel2:=Go.below_drewN hbel nq;clear hbel;generalize wr.drewN nq=w2 at hbel2 ⊢
    have HM:=Lib.hid hmiss.out;clear hmiss;have hel:(⟨#[uLet k]⟩:ByteArray)[0]'(by simp[ByteArray.size])=uLet k:=rfl;cases hq:((((⟨#[uLet k]⟩:ByteArray)[0]'(by simp[ByteArray.size])).toNat:Int)==(s[i].toNat:Int))
    ·have hm2: ∀j,j<k+1→uLet j≠s[i]:=by
      intro j hj;by_cases hjk:j<k
      ·exact HM.out j hjk
      ·have:j=k:=by omega
       subst this;intro he;rw[hel,he]at hq;simp at hq
     have HM2:=Lib.hid hm2;clear hm2;go_wp2_with fail;go_roundw
     case rel=>exact⟨k+1,by omega,by go_num,hbel2,HM2.out⟩
     case measure=>simp[intOf];omega
    ·have hu:uLet k=s[i]:=by
      rw[hel]at hq;have h1:((uLet k).toNat:Int)=(s[i].toNat:Int):=by simpa using hq
      exact UInt8.toNat_inj.1 (by omega)
     have hE:=unitAt_hit (l:=s.data.toList) (by rw[len_data];exact hi) HN.out hlt (by rw[atB_lt hi];exact hu);have HE:=Lib.hid hE;clear hE hu;go_wp2_with fail;go_ret2;exact⟨by rw[HE.out];rfl,hbel2⟩
   ·obtain rfl:k=6:=by omega
    have hE:=unitAt_miss (l:=s.data.toList) (by rw[len_data];exact hi) HN.out (by rw[atB_lt hi];intro j hj;exact hmiss.out j (by omega));have HE:=Lib.hid hE;clear hE hmiss;go_wp2_with fail;go_ret2;exact⟨by rw[HE.out];rfl,hbel⟩
theorem span_unitAt (s:ByteArray) (x:Int) (i:Nat) (hx:x=(i:Int)) (w:World) (hs:s.size≤281474976710656) (hi:i≤281474976710656):
  Calls Tryz.prog 260 #[.string s,.int .i64 x] w (Two w (unitAt s.data.toList i)):=by
 by_cases ho:s.size≤i
 ·have hE:=unitAt_out (l:=s.data.toList) (i:=i) (by rw[len_data];exact ho);have HE:=Lib.hid hE;clear hE;subst hx;go_enter Tryz.func260,Tryz.ntmps260;go_wp2_with fail;go_ret2;exact⟨by rw[HE.out];rfl,Below.refl _ _⟩
 ·have hlt:i<s.size:=by omega
  cases h1:((s[i].toNat:Int)==109)
  ·exact span_unitAt_loop s x i hx w hs hlt (by rw[atB_lt hlt];rintro⟨h,_⟩;rw[h]at h1;simp at h1) (.inl h1)
  ·by_cases h2:i+1<s.size
   ·cases h3:((s[i+1].toNat:Int)==115)
    ·exact span_unitAt_loop s x i hx w hs hlt (by rw[atB_lt h2];rintro⟨_,_,h⟩;rw[h]at h3;simp at h3) (.inr (.inr ⟨h2,h1,h3⟩))
    ·have e1:atB s.data.toList i=109:=by rw[atB_lt hlt];exact litT (n:=109) (by omega) rfl h1
     have e2:atB s.data.toList (i+1)=115:=by rw[atB_lt h2];exact litT (n:=115) (by omega) rfl h3
     have hE:=unitAt_ms (l:=s.data.toList) (i:=i) (by rw[len_data];exact h2) e1 e2;clear e1 e2;have HE:=Lib.hid hE;clear hE;subst hx;go_enter Tryz.func260,Tryz.ntmps260;have hi2:((i:Int)<(s.size:Int))=True:=by simp;omega
     have hi3:((i:Int)+1<(s.size:Int))=True:=by simp;omega
     go_wp2_with fail;go_ret2;exact⟨by rw[HE.out];rfl,Below.refl _ _⟩
   ·exact span_unitAt_loop s x i hx w hs hlt (by rw[len_data];omega) (.inr (.inl ⟨h1,by simp;omega⟩))
theorem mGo_stop {f:Nat} {l:List UInt8} {fin next sum:Nat} (h:spanEnd digit l fin=fin∨(unitAt l (spanEnd digit l fin)).1<next∨(unitAt l (spanEnd digit l fin)).1=7):mGo (f+1) l fin next sum=(fin,sum):=by
 rw[mGo,if_pos h]
theorem mGo_go {f:Nat} {l:List UInt8} {fin next sum at' u behind:Nat} (h1:spanEnd digit l fin=at') (h2:unitAt l at'=(u,behind)) (h3:at'≠fin) (h4:next≤u) (h5:u≠7):mGo (f+1) l fin next sum=mGo f l behind (u+1) (partSum (sat ((l.drop fin).take (at'-fin))) u sum):=by
 rw[mGo,h1,h2,if_neg (by omega)]
theorem take_spanEnd (p:UInt8→Bool) (l:List UInt8) (i:Nat):(l.drop i).take (spanEnd p l i-i)=(l.drop i).takeWhile p:=by
 rw[spanEnd,show i+((l.drop i).takeWhile p).length-i=((l.drop i).takeWhile p).length by omega];exact(List.prefix_iff_eq_take.1 (List.takeWhile_prefix p)).symm
theorem digit_code {c:UInt8} (h:digit c=true):48≤c.toNat∧c.toNat≤57:=by
 simp[digit]at h;omega
theorem part_digits {s:ByteArray} {i j:Nat} (hj:spanEnd digit s.data.toList i=j): ∀k (h:k<(s.extract i j).size),48≤(s.extract i j)[k].toNat∧(s.extract i j)[k].toNat≤57:=by
 intro k h;have hl:(s.extract i j).data.toList=(s.data.toList.drop i).takeWhile digit:=by
  rw[Lib.extract_data,←hj,take_spanEnd]
 have hk:k<(s.extract i j).data.toList.length:=by rw[len_data];exact h
 have hm:(s.extract i j)[k]∈(s.data.toList.drop i).takeWhile digit:=by
  rw[←hl,←gl _ k hk];exact List.getElem_mem _
 exact digit_code (List.all_eq_true.1 List.all_takeWhile _ hm)
theorem partSum_big {n u sum:Nat} (h:315360000000000/uSize u<n):partSum n u sum=315360000000001:=by
 unfold partSum;rw[if_pos h]
theorem partSum_min {n u sum:Nat} (h:n≤315360000000000/uSize u):partSum n u sum=min (sum+n*uSize u) 315360000000001:=by
 unfold partSum;rw[if_neg (by omega)]
theorem part_mul {n u:Nat} (h:n≤315360000000000/uSize u):n*uSize u≤315360000000000:=
 Nat.le_trans (Nat.mul_le_mul_right _ h) (Nat.div_mul_le_self _ _)
theorem ret_two {w w':World} {r:Nat×Nat} {a b:Nat} (h:r=(a,b)) (hb:Below w.heap.size w w'):Two w r (.returned (.tuple #[.int .i64 (a:Int),.int .i64 (b:Int)])) w':=by
 subst h;exact⟨rfl,hb⟩
theorem span_measure (s:ByteArray) (w:World) (hs:s.size≤281474976710656):Calls Tryz.prog 237 #[.string s] w (Two w (measure s.data.toList)):=by
 go_enter Tryz.func237,Tryz.ntmps237;go_wp2_with fail;go_loopw [4,5,6] (fun v t x wr=> ∃f fin next sum:Nat,fin≤s.size∧next≤7∧8≤f+next∧(sum:Int)≤315360000000001∧v= .int .i64 fin∧t= .int .i64 sum∧x= .int .i64 next∧Below w.heap.size w wr∧Hid (mGo f s.data.toList fin next sum=measure s.data.toList)) (fun _ _ x _=>7-(intOf x).toNat)
 case atStart=>exact⟨8,0,0,0,Nat.zero_le _,by omega,by omega,by omega,by go_num,by go_num,by go_num,Below.refl _ _,Lib.hid rfl⟩
 case round=>
  obtain⟨f,fin,next,sum,hfin,hnext,hf,hsum,rfl,rfl,rfl,hbel,hM⟩:=hrel;obtain⟨f,rfl⟩: ∃g,f=g+1:=⟨f-1,by omega⟩;go_wp2_with fail;refine(span_run s _ fin rfl _ hs (by omega)).mono ?_;rintro e w1 ⟨rfl,rfl⟩;have hat1:=spanEnd_ge digit s.data.toList fin;have hat2:=spanEnd_le digit s.data.toList fin (by rw[len_data];exact hfin);rw[len_data]at hat2;obtain⟨at',hat⟩: ∃k,k=spanEnd digit s.data.toList fin:=⟨_,rfl⟩;rw[←hat]at hat1 hat2 ⊢
  have HA:=Lib.hid hat;clear hat;go_wp2_with fail;refine(span_unitAt s _ at' rfl _ hs (by omega)).mono ?_;rintro e w2 ⟨rfl,hb2⟩;have hbel2:=hbel.trans (hb2.mono hbel.size);clear hb2 hbel;have hU:=unitAt_ge s.data.toList at';rw[len_data]at hU;obtain⟨u,behind,hu⟩: ∃u b,(u,b)=unitAt s.data.toList at':=⟨_,_,rfl⟩;rw[←hu]at hU ⊢
  obtain⟨hU1,hU2,hU3⟩:=hU;have HU:=Lib.hid hu;clear hu;simp only at hU1 hU2 hU3 ⊢
  cases hq:((at':Int)==(fin:Int))
  ·cases hlt:decide (u<next)
   ·cases h7:((u:Int)==7)
    ·go_wp2_with fail;have hf1:at'≠fin:=by have:=neT hq;omega
     have hn1:next≤u:=by have:=of_decide_eq_false hlt;omega
     have hu7:u≠7:=by have:=neT h7;omega
     have hg:=(mGo_go (f:=f) (l:=s.data.toList) (fin:=fin) (next:=next) (sum:=sum) HA.out.symm HU.out.symm hf1 hn1 hu7).symm.trans hM.out;have hdig:=part_digits (s:=s) (i:=fin) HA.out.symm;have hts:(s.extract fin at').size≤281474976710656:=by simp;omega
     have htd:(s.extract fin at').data.toList=(s.data.toList.drop fin).take (at'-fin):=Lib.extract_data ..;refine(span_saturated _ _ hts hdig).mono ?_;rintro e w3 ⟨rfl,rfl⟩;rw[htd];have hle:=sat_le ((s.data.toList.drop fin).take (at'-fin));obtain⟨n,hn⟩: ∃n,n=sat ((s.data.toList.drop fin).take (at'-fin)):=⟨_,rfl⟩;rw[←hn]at hle hg ⊢
     have hle2:(n:Int)≤315360000000001:=by omega
     have HG:=Lib.hid hg;have hbe:=hU2 hat2;have hu6:u≤6:=by omega
     clear hn hle hdig hts htd hg hM hU2 hU3 HA HU;have hz:=uSize_pos u;obtain⟨hz1,hz2⟩:=hz;have hz0:((uSize u:Int)==0)=false:=by rw[beq_eq_false_iff_ne];omega
     have hz3:(uSize u:Int)≤31536000000:=by omega
     clear hz2;have hqn:(315360000000000:Int)/(uSize u:Int)=((315360000000000/uSize u:Nat):Int):=by rw[Int.natCast_ediv];rfl
     cases hbig:decide ((315360000000000:Int)/(uSize u:Int)<(n:Int))
     ·have hbn:n≤315360000000000/uSize u:=by have:=of_decide_eq_false hbig;omega
      have hmul:=part_mul (u:=u) hbn;have hps:=partSum_min (u:=u) (sum:=sum) hbn;clear hbn hqn;have hmul2:(n:Int)*(uSize u:Int)≤315360000000000:=by rw[←Int.natCast_mul];omega
      have hmul0:0≤(n:Int)*(uSize u:Int):=by rw[←Int.natCast_mul];omega
      have hmulN:(n:Int)*(uSize u:Int)=((n*uSize u:Nat):Int):=by rw[←Int.natCast_mul]
      have HM:=Lib.hid hmulN;clear hmulN;go_wp2_with fail;refine(span_size _ u rfl hu6 _).mono ?_;rintro e w3 ⟨rfl,rfl⟩;cases hmin:decide ((315360000000001:Int)<(sum:Int)+(n:Int)*(uSize u:Int))
      ·have hmin2:sum+n*uSize u≤315360000000001:=by
        have:=of_decide_eq_false hmin;rw[HM.out]at this;omega
       rw[hps,Nat.min_eq_left hmin2]at HG;clear hmin2 hps;go_wp2_with fail;refine(span_size _ u rfl hu6 _).mono ?_;rintro e w3 ⟨rfl,rfl⟩;go_wp2_with fail;go_roundw
       case rel=>exact⟨f,behind,u+1,sum+n*uSize u,hbe,by omega,by omega,by have:=of_decide_eq_false hmin;have:=HM.out;omega,by go_num,by rw[if_neg (of_decide_eq_false hmin),HM.out,←Int.natCast_add],by go_num,hbel2,HG.out⟩
       case measure=>simp[intOf];omega
      ·have hmin2:315360000000001≤sum+n*uSize u:=by
        have:=of_decide_eq_true hmin;rw[HM.out]at this;omega
       rw[hps,Nat.min_eq_right hmin2]at HG;clear hmin2 hps;go_wp2_with fail;refine(span_size _ u rfl hu6 _).mono ?_;rintro e w3 ⟨rfl,rfl⟩;go_wp2_with fail;go_roundw
       case rel=>exact⟨f,behind,u+1,315360000000001,hbe,by omega,by omega,by omega,by go_num,by rw[if_pos (of_decide_eq_true hmin)];rfl,by go_num,hbel2,HG.out⟩
       case measure=>simp[intOf];omega
     ·have hps:=partSum_big (u:=u) (n:=n) (sum:=sum) (by have:=of_decide_eq_true hbig;omega);rw[hps]at HG;clear hps hqn;go_wp2_with fail;refine(span_size _ u rfl hu6 _).mono ?_;rintro e w3 ⟨rfl,rfl⟩;go_wp2_with fail;refine(span_size _ u rfl hu6 _).mono ?_;rintro e w3 ⟨rfl,rfl⟩;go_wp2_with fail;go_roundw
      case rel=>exact⟨f,behind,u+1,315360000000001,hbe,by omega,by omega,by omega,by go_num,by go_num,by go_num,hbel2,HG.out⟩
      case measure=>simp[intOf];omega
    ·have hE:=(mGo_stop (f:=f) (l:=s.data.toList) (fin:=fin) (next:=next) (sum:=sum) (.inr (.inr (by rw[←HA.out,←HU.out];exact Int.ofNat.inj (eqT h7))))).symm.trans hM.out;have HE:=Lib.hid hE;clear hE hM;go_wp2_with fail;go_ret2;exact ret_two HE.out.symm hbel2
   ·have hE:=(mGo_stop (f:=f) (l:=s.data.toList) (fin:=fin) (next:=next) (sum:=sum) (.inr (.inl (by rw[←HA.out,←HU.out];exact of_decide_eq_true hlt)))).symm.trans hM.out;have HE:=Lib.hid hE;clear hE hM;go_wp2_with fail;go_ret2;exact ret_two HE.out.symm hbel2
  ·have hE:=(mGo_stop (f:=f) (l:=s.data.toList) (fin:=fin) (next:=next) (sum:=sum) (.inl (by rw[←HA.out];exact Int.ofNat.inj (eqT hq)))).symm.trans hM.out;have HE:=Lib.hid hE;clear hE hM;go_wp2_with fail;go_ret2;exact ret_two HE.out.symm hbel2
theorem span_Prefix (s:ByteArray) (w:World) (hs:s.size≤281474976710656):Calls Tryz.prog 202 #[.string s] w fun e w'=>e= .returned (.int .i64 (spanPrefix s.data.toList:Nat))∧Below w.heap.size w w':=by
 go_enter Tryz.func202,Tryz.ntmps202;go_wp2_with fail;refine(span_measure s _ hs).mono ?_;rintro e w1 ⟨rfl,hb⟩;go_wp2_with fail;go_ret;exact⟨rfl,hb⟩
theorem span_Parse (s:ByteArray) (w:World):Calls Tryz.prog 203 #[.string s] w (Two w (spanParse s.data.toList)):=by
 by_cases hl:64<s.size
 ·have hE:spanParse s.data.toList=(0,1):=by rw[spanParse,if_pos (by rw[len_data];exact hl)]
  go_enter Tryz.func203,Tryz.ntmps203;go_wp2_with fail;go_ret2;exact ret_two hE (Below.refl _ _)
 ·obtain⟨r,hr⟩: ∃r,r=measure s.data.toList:=⟨_,rfl⟩;obtain⟨fin,sum⟩:=r;have hE:spanParse s.data.toList=if fin=0∨fin<s.size then(0,30)else if 315360000000000<sum then(0,31)else(sum,0):=by
   rw[spanParse,if_neg (by rw[len_data];exact hl),←hr,len_data]
  have HE:=Lib.hid hE;have HR:=Lib.hid hr;clear hE hr;go_enter Tryz.func203,Tryz.ntmps203;go_wp2_with fail;refine(span_measure s _ (by omega)).mono ?_;rintro e w1 ⟨rfl,hb⟩;rw[←HR.out];have HB:=Lib.hid hb;clear hb;simp only;cases h0:((fin:Int)==0)
  ·cases h1:decide (fin<s.size)
   ·cases h2:decide ((315360000000000:Int)<(sum:Int))
    ·have hR:spanParse s.data.toList=(sum,0):=by
      rw[HE.out,if_neg (by have:=neT h0;have:=of_decide_eq_false h1;omega),if_neg (by have:=of_decide_eq_false h2;omega)]
     have HR2:=Lib.hid hR;clear hR;go_wp2_with fail;go_ret2;exact ret_two HR2.out HB.out
    ·have hR:spanParse s.data.toList=(0,31):=by
      rw[HE.out,if_neg (by have:=neT h0;have:=of_decide_eq_false h1;omega),if_pos (by have:=of_decide_eq_true h2;omega)]
     have HR2:=Lib.hid hR;clear hR;go_wp2_with fail;go_ret2;exact ret_two HR2.out HB.out
   ·have hR:spanParse s.data.toList=(0,30):=by
     rw[HE.out,if_pos (.inr (of_decide_eq_true h1))]
    have HR2:=Lib.hid hR;clear hR;go_wp2_with fail;go_ret2;exact ret_two HR2.out HB.out
  ·have hR:spanParse s.data.toList=(0,30):=by
    rw[HE.out,if_pos (.inl (by have:=eqT h0;omega))]
   have HR2:=Lib.hid hR;clear hR;go_wp2_with fail;go_ret2;exact ret_two HR2.out HB.out
theorem escOut_n {q:UInt8} {l b:List UInt8} {n:Nat} (h:escOut q l=some (b,n)):1≤n∧n≤l.length∧b.length≤n:=by
 have dlen: ∀{l:List UInt8} {n base r:Nat},digs l n base=some r→n≤l.length:=by
  intro l n base r h;unfold digs at h;split at h
  ·simp at h
  ·omega
 cases l with
 |nil=>simp[escOut]at h
 |cons c r=>
  simp only[escOut]at h;split at h
  ·simp only[Option.some.injEq,Prod.mk.injEq]at h;obtain⟨rfl,rfl⟩:=h;simp
  ·split at h
   ·simp only[Option.some.injEq,Prod.mk.injEq]at h;obtain⟨rfl,rfl⟩:=h;simp
   ·split at h
    ·obtain⟨V,hV,h2⟩:=Option.map_eq_some_iff.1 h;simp only[Prod.mk.injEq]at h2;obtain⟨rfl,rfl⟩:=h2;have:=dlen hV;simp;omega
    ·split at h
     ·obtain⟨V,hV,h2⟩:=Option.bind_eq_some_iff.1 h;split at h2
      ·simp only[Option.some.injEq,Prod.mk.injEq]at h2;obtain⟨rfl,rfl⟩:=h2;have:=dlen hV;have:=formB_len V;simp;omega
      ·simp at h2
     ·split at h
      ·obtain⟨V,hV,h2⟩:=Option.bind_eq_some_iff.1 h;split at h2
       ·simp only[Option.some.injEq,Prod.mk.injEq]at h2;obtain⟨rfl,rfl⟩:=h2;have:=dlen hV;have:=formB_len V;simp;omega
       ·simp at h2
      ·obtain⟨V,hV,h2⟩:=Option.bind_eq_some_iff.1 h;split at h2
       ·simp only[Option.some.injEq,Prod.mk.injEq]at h2;obtain⟨rfl,rfl⟩:=h2;have:=dlen hV;simp at*;omega
       ·simp at h2
theorem unesc_fuel (q : UInt8) : ∀ (f g : Nat) (l : List UInt8), l.length ≤ f → l.length ≤ g → unesc q f l = unesc q g l
  | 0, 0, l, _, _ => rfl
  | 0, g + 1, l, h, _ => by
    have:l=[]:=List.eq_nil_of_length_eq_zero (by omega)
    subst this;rfl
  | f + 1, 0, l, _, h => by
    have:l=[]:=List.eq_nil_of_length_eq_zero (by omega)
    subst this;rfl
  | f + 1, g + 1, l, hf, hg => by
    cases l with
    | nil => rfl
    | cons c r =>
      simp only[unesc]
      simp only[List.length_cons]at hf hg
      split
      · rw [unesc_fuel q f g r (by omega) (by omega)]
      · cases he : escOut q r with
        | none => rfl
        | some p =>
          obtain⟨b,n⟩:=p
          have:=escOut_n he
          simp only
          rw[unesc_fuel q f g (r.drop n) (by simp;omega) (by simp;omega)]
def unAt (q:UInt8) (I:List UInt8) (k:Nat) (bs:List UInt8):Option (List UInt8):=(unesc q I.length (I.drop k)).map (bs++ ·)
theorem unAt_end {q:UInt8} {I bs:List UInt8} {k:Nat} (h:I.length≤k):unAt q I k bs=some bs:=by
 rw[unAt,List.drop_eq_nil_of_le h];cases I.length<;>simp[unesc]
theorem unAt_plain {q:UInt8} {I bs:List UInt8} {k:Nat} (h:k<I.length) (hc:atB I k≠92):unAt q I (k+1) (bs++[atB I k])=unAt q I k bs:=by
 rw[unAt,unAt,drop_at h];obtain⟨f,hf⟩: ∃f,I.length=f+1:=⟨I.length-1,by omega⟩;rw[hf,unesc,if_pos hc,unesc_fuel q (f+1) f (I.drop (k+1)) (by simp;omega) (by simp;omega)];cases unesc q f (I.drop (k+1))<;>simp
theorem unAt_none {q:UInt8} {I bs:List UInt8} {k:Nat} (h:k<I.length) (hc:atB I k=92) (he:escOut q (I.drop (k+1))=none):unAt q I k bs=none:=by
 rw[unAt,drop_at h];obtain⟨f,hf⟩: ∃f,I.length=f+1:=⟨I.length-1,by omega⟩;rw[hf,unesc,if_neg (by simp[hc]),he];rfl
theorem unAt_esc {q:UInt8} {I bs b:List UInt8} {k n:Nat} (h:k<I.length) (hc:atB I k=92) (he:escOut q (I.drop (k+1))=some (b,n)):unAt q I (k+1+n) (bs++b)=unAt q I k bs:=by
 have hn:=escOut_n he;rw[unAt,unAt,drop_at h];obtain⟨f,hf⟩: ∃f,I.length=f+1:=⟨I.length-1,by omega⟩;rw[hf,unesc,if_neg (by simp[hc]),he];simp only;rw[List.drop_drop,unesc_fuel q (f+1) f (I.drop (k+1+n)) (by simp;omega) (by simp;omega)];cases unesc q f (I.drop (k+1+n))<;>simp
theorem escB_none {q:UInt8} {l:List UInt8} (h:escOut q l=none):escB q l=([],0):=by rw[escB,h];rfl
theorem escB_some {q:UInt8} {l b:List UInt8} {n:Nat} (h:escOut q l=some (b,n)):escB q l=(b,n):=by rw[escB,h];rfl
def inside (l:List UInt8):List UInt8:=(l.drop 1).take (l.length-2)
theorem inside_eq (s:ByteArray):(s.extract 1 (s.size-1)).data.toList=inside s.data.toList:=by
 rw[Lib.extract_data,inside,len_data,show s.size-1-1=s.size-2 by omega]
theorem run_string_own {P:Program} {w:World} {base:Nat} {v:Value} {k:Nat} {l:List UInt8} {e:TypeId} (h:w.ownsRow base e 1 v k (cellsOf l)) (src dst:TypeId) (hs:P.underlying src=some (.slice e)) (he:P.underlying e=some (.int .u8)) (hd:P.underlying dst=some .string):
  (convert src dst v).run P w= .ok (.string ⟨l.toArray⟩) w:=by
 have hl:l.length=k:=by have:=h.1;simpa [cellsOf]using this
 rcases h.2 with⟨rfl,hk⟩|⟨g,cap,cur,rfl,_⟩
 ·have:l=[]:=List.eq_nil_of_length_eq_zero (by omega);subst this;exact run_convert_bytes_nil w src e hs he 0 0 dst hd
 ·exact run_string_of (bytesAt_of_own h) src dst e k cap hl.symm hs he hd
def UnqPost (w:World) (r:Nat×List UInt8) (e:Ending) (w':World):Prop:=e= .returned (.tuple #[.string ⟨r.2.toArray⟩,.int .i64 (r.1:Int)])∧Below w.heap.size w w'
theorem utf_unquote_bad (s:ByteArray) (w:World) (hs:s.size≤281474976710656) (hv:valid s.data.toList=false):
  Calls Tryz.prog 148 #[.string s] w (UnqPost w (4,[])):=by
 go_enter Tryz.func148,Tryz.ntmps148;go_wp2_with fail;refine(utf_valid s _ hs).mono ?_;rintro e w1 ⟨rfl,hb⟩;rw[hv];have HB:=Lib.hid hb;clear hb hv;go_wp2_with fail;go_ret2;exact⟨rfl,HB.out⟩
theorem utf_unquote_open (s:ByteArray) (w:World) (hs:s.size≤281474976710656) (hv:valid s.data.toList=true) (hl:litEnd s.data.toList 0≠some s.data.toList.length):
  Calls Tryz.prog 148 #[.string s] w (UnqPost w (10,[])):=by
 go_enter Tryz.func148,Tryz.ntmps148;go_wp2_with fail;refine(utf_valid s _ hs).mono ?_;rintro e w1 ⟨rfl,hb⟩;rw[hv];have HB:=Lib.hid hb;have HL:=Lib.hid hl;clear hb hv hl;go_wp2_with fail;refine(utf_literal s 0 _ hs).mono ?_;rintro e w2 ⟨rfl,rfl⟩;have hl:=HL.out;clear HL;cases he:litEnd s.data.toList 0 with
 |none=>
  clear hl;simp only[optN,optE];go_wp2_with fail;go_ret2;exact⟨rfl,HB.out⟩
 |some n=>
  have hn:n≠s.size:=by rintro rfl;rw[he,len_data]at hl;exact hl rfl
  have hnb:((n:Int) != (s.size:Int))=true:=by rw[bne_iff_ne];omega
  clear hl hn;simp only[optN,optE];go_wp2_with fail;go_ret2;exact⟨rfl,HB.out⟩
def unqRes (T:Option (List UInt8)):Nat×List UInt8:=match T with|none=>(11,[])|some b=>if valid b then(0,b)else(13,[])
theorem litEnd_two {l:List UInt8} (h:litEnd l 0=some l.length):2≤l.length∧isQuote (atB l 0)=true:=by
 unfold litEnd at h;split at h
 ·rename_i hx;obtain⟨n,hn,hn2⟩:=Option.map_eq_some_iff.1 h;have: ∀(q:UInt8) (l:List UInt8) (n:Nat),litGo q l=some n→1≤n:=by
   intro q l n h;cases l with
   |nil=>simp[litGo]at h
   |cons c r=>
    cases r with
    |nil=>simp only[litGo]at h;split at h<;>simp at h;omega
    |cons d r=>
     simp only[litGo]at h
     repeat' split at h
     all_goals first|(simp at h;done)|(simp at h;omega)|skip
  have:=this _ _ _ hn;exact⟨by omega,hx.2⟩
 ·simp at h
theorem utf_unquote_raw (s:ByteArray) (w:World) (hs:s.size≤281474976710) (hv:valid s.data.toList=true) (hl:litEnd s.data.toList 0=some s.data.toList.length) (h0:0<s.size) (hq:s[0].toNat=96):
  Calls Tryz.prog 148 #[.string s] w (UnqPost w (0,inside s.data.toList)):=by
 have h2:=(litEnd_two hl).1;rw[len_data]at hl h2;have hw:IntKind.i64.wrap ((s.size:Int)-1)=(s.size:Int)-1:=by rw[IntKind.wrap_i64];omega
 have hnb:((s.size:Int) != (s.size:Int))=false:=by simp
 go_enter Tryz.func148,Tryz.ntmps148;go_wp2_with fail;refine(utf_valid s _ (by omega)).mono ?_;rintro e w1 ⟨rfl,hb⟩;rw[hv];have HB:=Lib.hid hb;have HL:=Lib.hid hl;have HQ:=Lib.hid hq;clear hb hv hl hq;go_wp2_with fail;refine(utf_literal s 0 _ (by omega)).mono ?_;rintro e w2 ⟨rfl,rfl⟩;rw[HL.out];simp only[optN,optE];go_wp2_with fail;go_quiet (fail);have hq96:((s[0].toNat:Int)==96)=true:=by rw[HQ.out];rfl
 go_wp2_with fail;go_ret2;exact⟨by rw[←inside_eq,mk_data];rfl,Go.below_drewN HB.out _⟩
theorem utf_unquote_esc (s:ByteArray) (w:World) (hs:s.size≤281474976710) (hv:valid s.data.toList=true) (hl:litEnd s.data.toList 0=some s.data.toList.length) (h0:0<s.size) (hq:s[0].toNat≠96) (T:Option (List UInt8)) (hT:unAt s[0] (inside s.data.toList) 0 []=T):
  Calls Tryz.prog 148 #[.string s] w (UnqPost w (unqRes T)):=by
 have h2:=(litEnd_two hl).1;rw[len_data]at hl h2;have hw:IntKind.i64.wrap ((s.size:Int)-1)=(s.size:Int)-1:=by rw[IntKind.wrap_i64];omega
 have hnb:((s.size:Int) != (s.size:Int))=false:=by simp
 go_enter Tryz.func148,Tryz.ntmps148;go_wp2_with fail;refine(utf_valid s _ (by omega)).mono ?_;rintro e w1 ⟨rfl,hb⟩;rw[hv];have HL:=Lib.hid hl;have HQ:=Lib.hid hq;have HT:=Lib.hid hT;clear hv hl hq hT;go_wp2_with fail;refine(utf_literal s 0 _ (by omega)).mono ?_;rintro e w2 ⟨rfl,rfl⟩;rw[HL.out];simp only[optN,optE];go_wp2_with fail;go_quiet (fail);have hq96:((s[0].toNat:Int)==96)=false:=by rw[beq_eq_false_iff_ne];have:=HQ.out;omega
 obtain⟨t,ht⟩: ∃t,t=s.extract 1 (s.size-1):=⟨_,rfl⟩;have htd:t.data.toList=inside s.data.toList:=by rw[ht,inside_eq]
 have hts:t.size≤281474976710:=by
  rw[←len_data,htd,inside];have:=List.length_take_le (s.data.toList.length-2) (s.data.toList.drop 1);rw[len_data]at this;rw[len_data];omega
 rw[←ht];generalize hI:inside s.data.toList=I at HT htd;have HD:=Lib.hid htd;clear ht htd hI hw hnb h2;rename_i nq;have hb2:=Go.below_drewN hb nq;clear hb;generalize w1.drewN nq=w2 at hb2 ⊢
 obtain⟨i0,hi0,hz0,hz1,hz2⟩:=info_parts info_u8;go_wp2_with (at_make;refine wpList_make_own _ rfl (.const (.int .i64 0)) (.tmp 38) 142 rfl w.heap.size 5 i0 (.int .u8 0) 1 Tryz.underlying142 hi0 hz0 hz1 _ _ _ t.size rfl rfl rfl (by rw[hz2];omega) (by unfold maxLen;omega) hb2.size ?_);intro w3 hown3 hgr3;have hbel3:Below w.heap.size w w3:=hb2.grown hgr3 hb2.size (by simp);have HO3:=Lib.hid hown3;clear hi0 hz0 hz1 hz2 hown3 hgr3 hb2;go_wp2_with fail;go_loopw [8,9] (fun v i wr=> ∃(k:Nat) (bs:List UInt8),k≤t.size∧bs.length≤k∧i= .int .i64 k∧wr.ownsRow w.heap.size 5 1 v bs.length (cellsOf bs)∧Below w.heap.size w wr∧Hid (unAt s[0] I k bs=T)) (fun _ i _=>t.size-(intOf i).toNat)
 case atStart=>exact⟨0,[],Nat.zero_le _,Nat.le_refl _,rfl,HO3.out,hbel3,HT.out⟩
 case round=>
  obtain⟨k,bs,hk,hbs,rfl,hown,hbel,hT⟩:=hrel;clear HT HO3 hbel3;have hit:I.length=t.size:=by rw[←HD.out,len_data]
  have HI:=Lib.hid hit;clear hit;by_cases hlt:k<t.size
  ·have hkI:k<I.length:=by rw[HI.out];exact hlt
   have hat:atB I k=t[k]:=by rw[←HD.out];exact atB_lt hlt
   cases hc:((t[k].toNat:Int) != 92)
   ·have hc92:atB I k=92:=by rw[hat];exact litT (n:=92) (by omega) rfl (by simpa [bne]using hc)
    have hrest:(t.extract (k+1) t.size).data.toList=I.drop (k+1):=by rw[extract_from,HD.out]
    have hex:(t.extract (k+1) t.size).size≤281474976710656:=by simp;omega
    have HX:=Lib.hid hex;have HA:=Lib.hid hat;cases he:escOut s[0] (I.drop (k+1))with
    |none=>
     have hTn:=(unAt_none (bs:=bs) hkI hc92 he).symm.trans hT.out;have hes:=escB_none he;rw[←hrest]at hes;have HE:=Lib.hid hes;have HTn:=Lib.hid hTn;clear hc92 hrest he hTn hes hat hex hT;go_wp2_with fail;refine(utf_escape (t.extract (k+1) t.size) s[0] _ HX.out _ w.heap.size bs.length bs hown hbel.size (by omega)).mono ?_;rintro e w4 ⟨v',rfl,ho,hg⟩;rw[HE.out]at ho ⊢
     have HB:=Lib.hid (hbel.grown hg hbel.size (fun g hg2=>(hown.lt g hg2).1));clear ho hg hown hbel;go_wp2_with fail;go_ret2;exact⟨by rw[←HTn.out];rfl,HB.out⟩
    |some p=>
     obtain⟨b,n⟩:=p;have hn:=escOut_n he;have hTn:=(unAt_esc (bs:=bs) hkI hc92 he).trans hT.out;have hes:=escB_some he;rw[←hrest]at hes;rw[List.length_drop,HI.out]at hn;obtain⟨hn1,hn2,hn3⟩:=hn;have hnb:((n:Int)==0)=false:=by rw[beq_eq_false_iff_ne];omega
     have HE:=Lib.hid hes;have HTn:=Lib.hid hTn;clear hc92 hrest he hTn hes hat hex hT;go_wp2_with fail;refine(utf_escape (t.extract (k+1) t.size) s[0] _ HX.out _ w.heap.size bs.length bs hown hbel.size (by omega)).mono ?_;rintro e w4 ⟨v',rfl,ho,hg⟩;rw[HE.out]at ho ⊢
     have HB:=Lib.hid (hbel.grown hg hbel.size (fun g hg2=>(hown.lt g hg2).1));have HO:=Lib.hid ho;clear ho hg hown hbel;go_wp2_with fail;go_roundw
     case rel=>exact⟨k+1+n,bs++b,by omega,by rw[List.length_append];omega,by go_num,by rw[List.length_append];exact HO.out,HB.out,HTn.out⟩
     case measure=>simp[intOf];omega
   ·have hc92:atB I k≠92:=by rw[hat];exact litF (n:=92) (by omega) rfl (by simpa [bne]using hc)
    have hTn:=(unAt_plain (q:=s[0]) (bs:=bs) hkI hc92).trans hT.out;rw[hat]at hTn;have HTn:=Lib.hid hTn;clear hc92 hat hTn hT;go_wp2_with (at_builtin;refine wpList_push rfl (.tmp 50) (.tmp 54) 142 rfl w.heap.size 5 (.int .u8 0) 1 1 info_u8 Tryz.underlying142 rfl (by omega) _ bs.length _ rfl hown [.int .u8 (t[k].toNat:Int)] rfl rfl (one1 rfl) (by unfold maxLen;omega) (by omega) hbel.size ?_);intro v' w4 ho hg;have HB:=Lib.hid (hbel.grown hg hbel.size (fun g hg2=>(hown.lt g hg2).1));have HO:=Lib.hid ho;clear ho hg hown hbel;go_wp2_with fail;go_roundw
    case rel=>exact⟨k+1,bs++[t[k]],by omega,by simp;omega,by go_num,by rw[cellsOf_append,List.length_append];exact HO.out,HB.out,HTn.out⟩
    case measure=>simp[intOf];omega
  ·have hTe:=(unAt_end (q:=s[0]) (bs:=bs) (k:=k) (by rw[HI.out];omega)).symm.trans hT.out;have HTe:=Lib.hid hTe;have hback:=run_string_own (P:=Tryz.prog) hown 142 9 Tryz.underlying142 Tryz.underlying5 Tryz.underlying9;have hsz:(⟨bs.toArray⟩:ByteArray).size≤281474976710656:=by simp[ByteArray.size];omega
   have HS:=Lib.hid hsz;clear hTe hT hsz;go_wp2_with fail;refine(utf_valid ⟨bs.toArray⟩ _ HS.out).mono ?_;rintro e w4 ⟨rfl,hb4⟩;have hown4:=own_below hown hb4;have hback4:=run_string_own (P:=Tryz.prog) hown4 142 9 Tryz.underlying142 Tryz.underlying5 Tryz.underlying9;have HB:=Lib.hid (hbel.trans (hb4.mono hbel.size));clear hown hown4 hbel hb4 hback;rw[show ((⟨bs.toArray⟩:ByteArray).data.toList)=bs from by simp];cases hvb:valid bs
   ·have HV:=Lib.hid hvb;clear hvb;go_wp2_with fail;go_ret2;exact⟨by rw[←HTe.out,unqRes];simp[HV.out],HB.out⟩
   ·have HV:=Lib.hid hvb;clear hvb;go_wp2_with fail;go_ret2;exact⟨by rw[←HTe.out,unqRes];simp[HV.out],HB.out⟩
theorem inside_len {l:List UInt8} (h:2≤l.length):(inside l).length=l.length-2:=by
 rw[inside,List.length_take,List.length_drop];omega
theorem utf_unquote (s:ByteArray) (w:World) (hs:s.size≤281474976710):
  Calls Tryz.prog 148 #[.string s] w (UnqPost w (unquote s.data.toList)):=by
 unfold unquote;cases hv:valid s.data.toList
 ·rw[if_pos rfl];exact utf_unquote_bad s w (by omega) hv
 ·rw[if_neg (by simp)];by_cases hl:litEnd s.data.toList 0=some s.data.toList.length
  ·rw[if_neg (by simpa using hl)];have h2:=(litEnd_two hl).1;have h0:0<s.size:=by rw[len_data]at h2;omega
   have hat:=atB_lt h0;rw[hat];by_cases hq:s[0]=96
   ·rw[if_pos hq];exact utf_unquote_raw s w hs hv hl h0 (by rw[hq];rfl)
   ·rw[if_neg hq];have hq':s[0].toNat≠96:=fun e=>hq (u8_lit (n:=96) (by omega) e)
    have hT:unAt s[0] (inside s.data.toList) 0 []=unesc s[0] s.data.toList.length (inside s.data.toList):=by
     rw[unAt,List.drop_zero,unesc_fuel s[0] (inside s.data.toList).length s.data.toList.length _ (Nat.le_refl _) (by rw[inside_len h2];omega)];cases unesc s[0] s.data.toList.length (inside s.data.toList)<;>simp
    exact utf_unquote_esc s w hs hv hl h0 hq' _ hT
  ·rw[if_pos hl];exact utf_unquote_open s w (by omega) hv hl
end Go.Proofs.YtibcjfjacielbaaGreatDoor
