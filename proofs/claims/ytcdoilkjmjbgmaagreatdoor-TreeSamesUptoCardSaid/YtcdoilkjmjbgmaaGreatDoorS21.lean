import Derived.Test.YtcdoilkjmjbgmaaGreatDoorS03
/- Part of the proof of YtcdoilkjmjbgmaaGreatDoorCardY: RcB RcC RaB RaC RaD RaE RaF RaG TrS TsB. -/
set_option maxRecDepth 100000
set_option maxHeartbeats 4000000
set_option linter.unusedVariables false
set_option linter.unusedSimpArgs false
namespace Go.Proofs.YtcdoilkjmjbgmaaGreatDoor
open Go.RowKit
open Go.Proofs.Tryz
variable {u b j n sum rs a x k m i en base size b1 b2:Nat} {l:List UInt8} {w w':World} {c q:UInt8} {s y:ByteArray} {e:TypeId} {v v1 v2:Value} {xs ys:List ByteArray}
theorem Vu (i j:Nat):Pn (7,i) j= .tuple #[.int .i64 0,.int .i64 0,.int .i64 0]:=rfl
theorem JD (h:u≠7):Pn (u,b) j= .tuple #[.int .i64 ((b-j:Nat):Int),.int .i64 (dh u:Int),.int .i64 ((u+1:Nat):Int)]:=by
 unfold Pn;exact ah h
theorem Fe (l:List UInt8) (i:Nat) (h:(aN l i).1≠7):i<(aN l i).2:=by
 unfold aN at h ⊢
 split
 ·rename_i h1;rw[az h1]at h;exact absurd rfl h
 ·rename_i h1;rw[ah h1]at h;split
  ·simp
  ·rename_i h2;rw[ah h2]at h;split
   ·rename_i h3;rw[az h3]at h;exact absurd rfl h
   ·simp
theorem uD (s:ByteArray) (w:World) (hs:s.size≤281474976710656):
  Calls prog 110 #[.string s] w fun e w'=>e= .returned (.int .i64 (aX s.data.toList:Nat))∧w=w':=by
 obtain⟨V,hV⟩: ∃V,V=aX s.data.toList:=⟨_,rfl⟩;rw[←hV];have HV:=ae hV;clear hV;go_enter func110,ntmps110;go_wp2_with fail;go_loop [3,4] (fun v x=> ∃f fin next sum:Nat,fin≤s.size∧next≤7∧8≤f+next∧v= .int .i64 fin∧x= .int .i64 next∧Hid ((D3 f s.data.toList fin next sum).1=V)) (fun v _=>s.size-(intOf v).toNat)
 case atStart=>exact⟨8,0,0,0,aV _,by omega,by omega,by go_num,by go_num,ae HV.symm⟩
 case round=>
  obtain⟨f,fin,next,sum,mu,Z9,hf,rfl,rfl,hM⟩:=hrel;obtain⟨f,rfl⟩: ∃g,f=g+1:=⟨f-1,by omega⟩;by_cases aA:fin<s.size
  ·go_wp2_with fail;refine(OA s fin _ hs (by omega)).mono ?_;rintro e w1 ⟨rfl,rfl⟩;have qR:=aW digit s.data.toList fin;have pg:=bK digit s.data.toList fin (by rw[af];exact mu);rw[af]at pg;obtain⟨at',cI⟩: ∃k,k=ag digit s.data.toList fin:=⟨_,rfl⟩;rw[←cI]at qR pg ⊢
   have HA:=ae cI;clear cI;go_wp2_with fail;refine(I5 s at' _ hs (by omega)).mono ?_;rintro e w2 ⟨rfl,rfl⟩;have hU:=jX s.data.toList at';have hG:=Fe s.data.toList at';rw[af]at hU;obtain⟨u,behind,hu⟩: ∃u b,(u,b)=aN s.data.toList at':=⟨_,_,rfl⟩;rw[←hu]at hU hG ⊢
   obtain⟨hU1,Sc,Zx⟩:=hU;have HU:=ae hu;clear hu;simp only at hU1 Sc Zx hG;by_cases h7:u=7
   ·have hE:=(cn Prod.fst (jA (f:=f) (l:=s.data.toList) (fin:=fin) (next:=next) (sum:=sum) (.inr (.inr (by rw[←HA.out,←HU.out];exact h7))))).symm.trans hM;subst h7;rw[Vu];have HE:=ae hE;clear hE hM;go_wp2_with fail
    all_goals (go_ret;exact⟨aH (by rw[←HE.out]),rfl⟩)
   ·rw[JD h7];have hG2:=hG h7;have PB:=Sc pg;have hu6:u≤6:=by omega
    have St:(((behind-at':Nat):Int)==0)=false:=bN.2 (by omega);have xd:behind-at'≤2814749767106560:=by omega
    clear hG hU1 Sc Zx;cases hq:((at':Int)==(fin:Int))
    ·by_cases hr:u<next
     ·have hE:=(cn Prod.fst (jA (f:=f) (l:=s.data.toList) (fin:=fin) (next:=next) (sum:=sum) (.inr (.inl (by rw[←HA.out,←HU.out];exact hr))))).symm.trans hM;have HE:=ae hE;have hrr:((u:Int)+1≤(next:Int))=True:=aD (by omega);clear hE hM hr h7;go_wp2_with fail;go_ret;exact⟨aH (by rw[←HE.out]),rfl⟩
     ·have hg:=(cn Prod.fst (LR (f:=f) (l:=s.data.toList) (fin:=fin) (next:=next) (sum:=sum) HA.symm HU.symm (by have:=kE hq;omega) (by omega) h7)).symm.trans hM;have HG:=ae hg;have hrr:((u:Int)+1≤(next:Int))=False:=bT (by omega);clear hg hM;have hm:fin<behind:=by omega
      go_wp2_with fail;exact⟨⟨f,behind,u+1,_,PB,by omega,by omega,by apply IM;omega,by go_num,HG⟩,by simp[intOf];omega⟩
    ·have hE:=(cn Prod.fst (jA (f:=f) (l:=s.data.toList) (fin:=fin) (next:=next) (sum:=sum) (.inl (by rw[←HA.out];exact Int.ofNat.inj (jn hq))))).symm.trans hM;have HE:=ae hE;clear hE hM h7;go_wp2_with fail;go_ret;exact⟨aH (by rw[←HE.out]),rfl⟩
  ·have hE:=(cn Prod.fst (jA (f:=f) (l:=s.data.toList) (fin:=fin) (next:=next) (sum:=sum) (.inl (bP (by rw[af];omega))))).symm.trans hM;have HE:=ae hE;clear hE hM;go_wp2_with fail;go_ret;exact⟨aH (by rw[←HE.out]),rfl⟩
theorem Q0 (hn:n=sat l) (h:sum=min rs 315360000000001):jw n u sum=min (rs+manyN l (dh u)) 315360000000001:=by
 subst hn;by_cases hb:315360000000000/dh u<sat l
 ·rw[yS hb,manyN,az hb];omega
 ·rw[yT (by omega),manyN,ah hb];omega
theorem Vv (l:List UInt8) (u:Nat):manyN l (dh u)≤315360000000001:=by
 unfold manyN;split
 ·exact aS _
 ·have:=I2 (n:=sat l) (u:=u) (by omega);omega
theorem rJ {r:Nat×Nat} (h:r=(a,b)) (hb:w=w'):(Ending.returned (.tuple #[.int .i64 (a:Int),.int .i64 (b:Int)])= .returned (.tuple #[.int .i64 (r.1:Nat),.int .i64 (r.2:Nat)]))∧w=w':=by
 subst h;exact⟨rfl,hb⟩
theorem CY (s:ByteArray) (w:World) (hs:s.size≤64) (h0:0<s.size) (hm:(measure s.data.toList).1=s.size):
  Calls prog 112 #[.string s] w fun e w'=>e= .returned (.tuple #[.int .i64 ((bz s.data.toList).1:Nat),.int .i64 ((bz s.data.toList).2:Nat)])∧w=w':=by
 obtain⟨r,hr⟩: ∃r,r=bz s.data.toList:=⟨_,rfl⟩;have hR:r=if 315360000000000<(measure s.data.toList).2 then(0,31)else((measure s.data.toList).2,0):=by
  rw[hr,bz,ah (by rw[af];omega),ah (by rw[hm,af];omega)]
 rw[←hr];have HR:=ae hR;have Ht:((aX s.data.toList:Int) != (s.size:Int))=false:=by
  rw[Iv,aX,hm]
 have HM:=ae hm;clear hr hR hm;obtain⟨XR,XJ⟩:=oB h0;go_enter func112,ntmps112;go_wp2_with fail;refine(uD s _ (by omega)).mono ?_;rintro e w1 ⟨rfl,rfl⟩;go_wp2_with fail;clear Ht XR XJ;go_loop [4,5] (fun v x=> ∃f fin next sum rs:Nat,fin≤s.size∧next≤7∧8≤f+next∧rs≤next*315360000000001∧v= .int .i64 rs∧x= .int .i64 fin∧Hid (D3 f s.data.toList fin next sum=measure s.data.toList)∧Hid (sum=min rs 315360000000001)) (fun _ x=>s.size-(intOf x).toNat)
 case atStart=>exact⟨8,0,0,0,0,aV _,by omega,by omega,by omega,by go_num,by go_num,ae rfl,ae (by omega)⟩
 case round=>
  obtain⟨f,fin,next,sum,rs,mu,Z9,hf,hrs,rfl,rfl,hM,hS⟩:=hrel;obtain⟨f,rfl⟩: ∃g,f=g+1:=⟨f-1,by omega⟩;have aro:rs≤2207520000000007:=by omega
  by_cases aA:fin<s.size
  ·have hgo: ¬(ag digit s.data.toList fin=fin∨(aN s.data.toList (ag digit s.data.toList fin)).1<next∨(aN s.data.toList (ag digit s.data.toList fin)).1=7):=by
    intro h;have h1:=jA (f:=f) (sum:=sum) h;rw[hM.out]at h1;have h2:=HM.out;rw[h1]at h2;simp only at h2;omega
   have HGO:=ae hgo;clear hgo;go_wp2_with fail;refine(OA s fin _ (by omega) (by omega)).mono ?_;rintro e w1 ⟨rfl,rfl⟩;have qR:=aW digit s.data.toList fin;have pg:=bK digit s.data.toList fin (by rw[af];exact mu);rw[af]at pg;obtain⟨at',cI⟩: ∃k,k=ag digit s.data.toList fin:=⟨_,rfl⟩;rw[←cI]at qR pg HGO ⊢
   have HA:=ae cI;clear cI;go_wp2_with fail;refine(I5 s at' _ (by omega) (by omega)).mono ?_;rintro e w2 ⟨rfl,rfl⟩;have hU:=jX s.data.toList at';have hG:=Fe s.data.toList at';rw[af]at hU;obtain⟨u,behind,hu⟩: ∃u b,(u,b)=aN s.data.toList at':=⟨_,_,rfl⟩;rw[←hu]at hU hG HGO ⊢
   obtain⟨hU1,Sc,Zx⟩:=hU;have HU:=ae hu;clear hu;simp only at hU1 Sc Zx hG;have hgo:=HGO.out;simp only at hgo;clear HGO;have h7:u≠7:=fun h=>hgo (.inr (.inr h))
   rw[JD h7];have hG2:=hG h7;have PB:=Sc pg;have hu6:u≤6:=by omega
   have hun:next≤u:=by omega
   have hg:=(LR (f:=f) (l:=s.data.toList) (fin:=fin) (next:=next) (sum:=sum) HA.symm HU.symm (by omega) hun h7).symm.trans hM;have oo:=yR (s:=s) (i:=fin) HA.symm;have KV:(s.extract fin at').size≤281474976710656:=by simp;omega
   have qG:(s.extract fin at').data.toList=(s.data.toList.drop fin).take (at'-fin):=Lib.extract_data ..;have ZC:=Q0 (u:=u) (sum:=sum) (rs:=rs) (rfl:sat ((s.data.toList.drop fin).take (at'-fin))=_) hS;have hml:=Vv ((s.data.toList.drop fin).take (at'-fin)) u;have hz:=EJ u;have Ot:=fun w=>Uy (s.extract fin at') (dh u) w KV hz.1 hz.2 oo
   rw[qG]at Ot;rw[ZC]at hg;generalize manyN ((s.data.toList.drop fin).take (at'-fin)) (dh u)=m at Ot hg hml;have HG:=ae hg;have HC:=ae Ot;clear hG hU1 Sc Zx hgo hg ZC oo KV qG Ot hM hS hz HA HU h7;obtain⟨g,af6⟩: ∃g,g=behind-at':=⟨_,rfl⟩;have Lm:behind=at'+g:=by omega
   rw[←af6];clear af6;subst Lm;go_wp2_with fail;refine(HC _).mono ?_;rintro e w2 ⟨rfl,rfl⟩;clear HC;go_wp2_with fail;exact⟨⟨f,at'+g,u+1,_,rs+m,PB,by omega,by omega,by omega,by apply IM;omega,by apply IM;omega,HG,ae rfl⟩,by simp[intOf];omega⟩
  ·have hE:=(jA (f:=f) (l:=s.data.toList) (fin:=fin) (next:=next) (sum:=sum) (.inl (bP (by rw[af];omega)))).symm.trans hM;have hS2:=hS.out;have Ho:=HR.out;rw[←hE]at Ho;simp only at Ho;by_cases hb:315360000000000<rs
   ·rw[az (by omega)]at Ho;have yf:=ae Ho;clear hE hM hS hS2 Ho;go_wp2_with fail;go_ret2;exact rJ yf rfl
   ·rw[ah (by omega),show sum=rs by omega]at Ho;have yf:=ae Ho;clear hE hM hS hS2 Ho;go_wp2_with fail;go_ret2;exact rJ yf rfl
theorem Q1 (s:ByteArray) (w:World) (hs:s.size≤maxLen):
  Calls prog 112 #[.string s] w fun e w'=>e= .returned (.tuple #[.int .i64 ((bz s.data.toList).1:Nat),.int .i64 ((bz s.data.toList).2:Nat)])∧w=w':=by
 unfold maxLen at hs;by_cases hl:64<s.size
 ·have hE:bz s.data.toList=(0,1):=by rw[bz,az (by rw[af];exact hl)]
  have HE:=ae hE;clear hE;go_enter func112,ntmps112;go_wp2_with fail;go_ret2;exact rJ HE rfl
 ·by_cases h0:s.size=0
  ·have hb:s=ByteArray.empty:=by
    have:s.data= #[]:=Array.eq_empty_of_size_eq_zero h0;cases s;simp only at this;rw[this];rfl
   have hE:bz s.data.toList=(0,30):=by rw[hb];decide
   have HE:=ae hE;clear hE;subst hb;go_enter func112,ntmps112;go_wp2_with fail;go_ret2;exact rJ HE rfl
  ·by_cases hm:(measure s.data.toList).1=s.size
   ·exact CY s w (by omega) (by omega) hm
   ·have hle:=kD s.data.toList;rw[aX,af]at hle;have hE:bz s.data.toList=(0,30):=by
     rw[bz,ah (by rw[af];omega),az (.inr (by rw[af];omega))]
    have HE:=ae hE;have Ht:((aX s.data.toList:Int) != (s.size:Int))=true:=by
     rw[jo,aX];omega
    obtain⟨XR,XJ⟩:=oB (show 0<s.size by omega);clear hE hm hle;go_enter func112,ntmps112;go_wp2_with fail;refine(uD s _ (by omega)).mono ?_;rintro e w1 ⟨rfl,rfl⟩;go_wp2_with fail;go_ret2;exact rJ HE rfl
theorem Ab (s:ByteArray) (i:Nat) (w:World) (hi:s.size≤i):
  Calls prog 114 #[.string s,.int .i64 (i:Int)] w fun e w'=>e= .returned (.tuple #[.int .i64 0,.int .i64 10])∧w=w':=by
 go_enter func114,ntmps114;go_wp2_with fail;go_ret2;exact⟨rfl,rfl⟩
theorem CZ (s:ByteArray) (i:Nat) (w:World) (hi:i<s.size) (h1:s[i].toNat<34∨34<s[i].toNat) (h2:s[i].toNat<39∨39<s[i].toNat) (h3:s[i].toNat<96∨96<s[i].toNat):
  Calls prog 114 #[.string s,.int .i64 (i:Int)] w fun e w'=>e= .returned (.tuple #[.int .i64 0,.int .i64 10])∧w=w':=by
 have b1:((s[i].toNat:Int) != 34)=true:=by rw[jo];omega
 have b2:((s[i].toNat:Int) != 39)=true:=by rw[jo];omega
 have b3:((s[i].toNat:Int) != 96)=true:=by rw[jo];omega
 clear h1 h2 h3;go_enter func114,ntmps114;go_wp2_with fail;go_ret2;exact⟨rfl,rfl⟩
theorem Ac (s:ByteArray) (i:Nat) (w:World) (hs:s.size≤281474976710656) (hi:i<s.size) (T:Option Nat) (hT:fb s s[i] T (i+1)) (hq:s[i]=96)
  (aY:((s[i].toNat:Int) != 34)=true) (aQ:((s[i].toNat:Int) != 39)=true) (cu:((s[i].toNat:Int) != 96)=false):
  Calls prog 114 #[.string s,.int .i64 (i:Int)] w fun e w'=>e= .returned (.tuple #[.int .i64 (jN T),.int .i64 (nS 10 T)])∧w=w':=by
 have s9:decide ((i:Int)<0)=false:=by simp
 have hi1:decide (s.size≤i)=false:=by simpa using hi
 have wZ:decide ((s.size:Int)≤(i:Int))=false:=by simpa using hi
 have HT:=ae hT;have HQ:=ae hq;clear hT hq
 all_goals
  go_enter func114,ntmps114;go_wp2_with fail;go_loop [7] (fun t=> ∃k:Nat,k≤s.size+1∧t= .int .i64 k∧fb s s[i] T k) (fun t=>s.size+1-(intOf t).toNat)
  case atStart=>exact⟨i+1,by omega,by go_num,HT.out⟩
  case round=>
   obtain⟨k,hk,rfl,hrel⟩:=hrel;clear HT;have HR:=ae hrel;clear hrel;by_cases aA:k<s.size
   ·cases h1:((s[k].toNat:Int)==(s[i].toNat:Int))
    ·go_wp2_with fail;go_round
     case rel=>exact⟨k+1,by omega,by go_num,Oy HR.out HQ.out aA (KU h1)⟩
     case measure=>simp[intOf];omega
    ·go_wp2_with fail;go_ret2;exact⟨iJ (Ap HR.out aA (u8T h1)) (by simp[jN]) rfl,rfl⟩
   ·go_wp2_with fail;go_ret2;exact⟨iJ (Ao HR.out (by omega)) rfl rfl,rfl⟩
theorem qv (s:ByteArray) (i:Nat) (w:World) (hs:s.size≤281474976710656) (hi:i<s.size) (T:Option Nat) (hT:fb s s[i] T (i+1)) (hq:s[i]≠96)
  (b1 b2:Bool) (aY:((s[i].toNat:Int) != 34)=b1) (aQ:((s[i].toNat:Int) != 39)=b2) (fe:((s[i].toNat:Int) != 96)=true) (oc:(b1&&b2)=false):
  Calls prog 114 #[.string s,.int .i64 (i:Int)] w fun e w'=>e= .returned (.tuple #[.int .i64 (jN T),.int .i64 (nS 10 T)])∧w=w':=by
 have s9:decide ((i:Int)<0)=false:=by simp
 have hi1:decide (s.size≤i)=false:=by simpa using hi
 have wZ:decide ((s.size:Int)≤(i:Int))=false:=by simpa using hi
 have HT:=ae hT;have HQ:=ae hq;clear hT hq;cases b1<;>cases b2<;>first|(simp at oc;done)|skip
 all_goals
  clear oc;go_enter func114,ntmps114;go_wp2_with fail;go_loop [7] (fun t=> ∃k:Nat,k≤s.size+1∧t= .int .i64 k∧fb s s[i] T k) (fun t=>s.size+1-(intOf t).toNat)
  case atStart=>exact⟨i+1,by omega,by go_num,HT.out⟩
  case round=>
   obtain⟨k,hk,rfl,hrel⟩:=hrel;clear HT;have HR:=ae hrel;clear hrel;by_cases aA:k<s.size
   ·cases h1:((s[k].toNat:Int)==(s[i].toNat:Int))
    ·cases h2:((s[k].toNat:Int)==10)
     ·cases h3:((s[k].toNat:Int)==92)
      ·go_wp2_with fail;go_round
       case rel=>exact⟨k+1,by omega,by go_num,ED HR.out HQ.out aA (KU h1) (pd (n:=10) (by omega) rfl h2) (pd (n:=92) (by omega) rfl h3)⟩
       case measure=>simp[intOf];omega
      ·by_cases jR:k+1<s.size
       ·cases h4:((s[k+1].toNat:Int)==10)
        ·go_wp2_with fail;go_round
         case rel=>first|exact⟨k+2,by omega,by go_num,Aq HR.out HQ.out jR (KU h1) (om (n:=92) (by omega) rfl h3) (pd (n:=10) (by omega) rfl h4)⟩|((repeat apply Exists.intro);exact⟨⟨k+2,by omega,by go_num,Aq HR.out HQ.out jR (KU h1) (om (n:=92) (by omega) rfl h3) (pd (n:=10) (by omega) rfl h4)⟩,rfl⟩)
         case measure=>simp[intOf];omega
        ·go_wp2_with fail;go_ret2;exact⟨iJ (BW HR.out HQ.out jR (KU h1) (om (n:=92) (by omega) rfl h3) (om (n:=10) (by omega) rfl h4)) rfl rfl,rfl⟩
       ·go_wp2_with fail;go_round
        case rel=>first|exact⟨k+2,by omega,by go_num,nD HR.out (by omega) (KU h1)⟩|((repeat apply Exists.intro);exact⟨⟨k+2,by omega,by go_num,nD HR.out (by omega) (KU h1)⟩,rfl⟩)
        case measure=>simp[intOf];omega
     ·go_wp2_with fail;go_ret2;exact⟨iJ (TL HR.out HQ.out aA (KU h1) (om (n:=10) (by omega) rfl h2)) rfl rfl,rfl⟩
    ·go_wp2_with fail;go_ret2;exact⟨iJ (Ap HR.out aA (u8T h1)) (by simp[jN]) rfl,rfl⟩
   ·go_wp2_with fail;go_ret2;exact⟨iJ (Ao HR.out (by omega)) rfl rfl,rfl⟩
theorem kY (s:ByteArray) (i:Nat) (w:World) (hs:s.size≤281474976710656):
  Calls prog 114 #[.string s,.int .i64 (i:Int)] w fun e w'=>e= .returned (.tuple #[.int .i64 (jN (bC s.data.toList i)),.int .i64 (nS 10 (bC s.data.toList i))])∧w=w':=by
 by_cases hi:i<s.size
 ·have R9:i<s.data.toList.length:=by rw[af];exact hi
  have cI:=ay hi;by_cases hq:dC s[i]=true
  ·have hT:fb s s[i] (bC s.data.toList i) (i+1):=by
    refine⟨by omega,?_⟩;rw[bC,az ⟨R9,by rw[cI];exact hq⟩,cI];rfl
   by_cases Sa:s[i]=96
   ·have e:s[i].toNat=96:=by rw[Sa];rfl
    exact Ac s i w hs hi _ hT Sa (by rw[jo];omega) (by rw[jo];omega) (by rw[e];rfl)
   ·have e:s[i].toNat=34∨s[i].toNat=39:=by
     simp only[dC,tu,cx]at hq;rcases hq with(h|h)|h
     ·left;rw[h];rfl
     ·right;rw[h];rfl
     ·exact absurd h Sa
    rcases e with e|e
    ·exact qv s i w hs hi _ hT Sa false true (by rw[e];rfl) (by rw[e];rfl) (by rw[e];rfl) rfl
    ·exact qv s i w hs hi _ hT Sa true false (by rw[e];rfl) (by rw[e];rfl) (by rw[e];rfl) rfl
  ·have hT:bC s.data.toList i=none:=by rw[bC,ah];rw[cI];exact fun h=>hq h.2
   rw[hT];have h1:s[i].toNat≠34:=fun e=>hq (by simp[dC,cJ (n:=34) (by omega) e])
   have h2:s[i].toNat≠39:=fun e=>hq (by simp[dC,cJ (n:=39) (by omega) e])
   have h3:s[i].toNat≠96:=fun e=>hq (by simp[dC,cJ (n:=96) (by omega) e])
   exact CZ s i w hi (by omega) (by omega) (by omega)
 ·have hT:bC s.data.toList i=none:=by rw[bC,ah];rw[af];exact fun h=>hi h.1
  rw[hT];exact Ab s i w (by omega)
theorem xP (c:UInt8) (w:World):
  Calls prog 154 #[.int .u8 (c.toNat:Int)] w fun e w'=>e= .returned (.int .i64 (mU c))∧w=w':=by
 by_cases h1:48≤c.toNat∧c.toNat≤57
 ·have hf:=ae (show mU c=(c.toNat:Int)-48 by rw[mU,fa,az h1];simp;omega);obtain⟨h1,h2⟩:=h1;go_enter func154,ntmps154;go_wp2_with fail;go_ret;exact⟨aH (by rw[hf.out]),rfl⟩
 ·by_cases h2:97≤c.toNat∧c.toNat≤102
  ·have hf:=ae (show mU c=(c.toNat:Int)-97+10 by rw[mU,fa,ah h1,az h2];simp;omega);obtain⟨h2,h3⟩:=h2;clear h1;go_enter func154,ntmps154;go_wp2_with fail;go_ret;exact⟨aH (by rw[hf.out]),rfl⟩
  ·by_cases h3:65≤c.toNat∧c.toNat≤70
   ·have hf:=ae (show mU c=(c.toNat:Int)-65+10 by rw[mU,fa,ah h1,ah h2,az h3];simp;omega);obtain⟨h3,h4⟩:=h3;clear h1 h2;go_enter func154,ntmps154;go_wp2_with fail;go_ret;exact⟨aH (by rw[hf.out]),rfl⟩
   ·have hf:=ae (show mU c= -1 by rw[mU,fa,ah h1,ah h2,ah h3]);have hc:c.toNat<48∨(57<c.toNat∧c.toNat<65)∨(70<c.toNat∧c.toNat<97)∨102<c.toNat:=by omega
    clear h1 h2 h3;rcases hc with h|⟨h,h'⟩|⟨h,h'⟩|h
    all_goals
     go_enter func154,ntmps154;go_wp2_with fail;go_ret;exact⟨aH (by rw[hf.out]),rfl⟩
theorem Bp (w:World) (a:Int) (c:UInt8) (h:a=(c.toNat:Int)):
  (convert 147 9 (.slice (some ⟨w.heap.size,0,none⟩) 1 1)).run prog (w.alloc (.cells #[.int .u8 a] 5))= .ok (.string ⟨#[c]⟩) (w.alloc (.cells #[.int .u8 a] 5)):=by
 subst h;have ho:(w.alloc (.cells #[.int .u8 (c.toNat:Int)] 5)).ownsRow w.heap.size 5 1 (.slice (some ⟨w.heap.size,0,none⟩) 1 1) 1 (cellsOf [c]):=yr (e:=5) (size:=1) w #[.int .u8 (c.toNat:Int)] 1 (aS _) (by unfold maxLen;omega) rfl;exact dT (P:=prog) ho 147 9 underlying147 underlying5 underlying9
theorem acf (w:World) (a b:Int) (c d:UInt8) (h:a=(c.toNat:Int)) (h2:b=(d.toNat:Int)):
  (convert 147 9 (.slice (some ⟨w.heap.size,0,none⟩) 2 2)).run prog (w.alloc (.cells #[.int .u8 a,.int .u8 b] 5))= .ok (.string ⟨#[c,d]⟩) (w.alloc (.cells #[.int .u8 a,.int .u8 b] 5)):=by
 subst h h2;have ho:(w.alloc (.cells #[.int .u8 (c.toNat:Int),.int .u8 (d.toNat:Int)] 5)).ownsRow w.heap.size 5 1 (.slice (some ⟨w.heap.size,0,none⟩) 2 2) 2 (cellsOf [c,d]):=yr (e:=5) (size:=1) w #[.int .u8 (c.toNat:Int),.int .u8 (d.toNat:Int)] 2 (aS _) (by unfold maxLen;omega) rfl;exact dT (P:=prog) ho 147 9 underlying147 underlying5 underlying9
theorem acg (w:World) (a b x:Int) (c d e:UInt8) (h:a=(c.toNat:Int)) (h2:b=(d.toNat:Int)) (h3:x=(e.toNat:Int)):
  (convert 147 9 (.slice (some ⟨w.heap.size,0,none⟩) 3 3)).run prog (w.alloc (.cells #[.int .u8 a,.int .u8 b,.int .u8 x] 5))= .ok (.string ⟨#[c,d,e]⟩) (w.alloc (.cells #[.int .u8 a,.int .u8 b,.int .u8 x] 5)):=by
 subst h h2 h3;have ho:(w.alloc (.cells #[.int .u8 (c.toNat:Int),.int .u8 (d.toNat:Int),.int .u8 (e.toNat:Int)] 5)).ownsRow w.heap.size 5 1 (.slice (some ⟨w.heap.size,0,none⟩) 3 3) 3 (cellsOf [c,d,e]):=yr (e:=5) (size:=1) w #[.int .u8 (c.toNat:Int),.int .u8 (d.toNat:Int),.int .u8 (e.toNat:Int)] 3 (aS _) (by unfold maxLen;omega) rfl;exact dT (P:=prog) ho 147 9 underlying147 underlying5 underlying9
theorem ach (w:World) (a b x y:Int) (c d e f:UInt8) (h:a=(c.toNat:Int)) (h2:b=(d.toNat:Int)) (h3:x=(e.toNat:Int)) (h4:y=(f.toNat:Int)):
  (convert 147 9 (.slice (some ⟨w.heap.size,0,none⟩) 4 4)).run prog (w.alloc (.cells #[.int .u8 a,.int .u8 b,.int .u8 x,.int .u8 y] 5))= .ok (.string ⟨#[c,d,e,f]⟩) (w.alloc (.cells #[.int .u8 a,.int .u8 b,.int .u8 x,.int .u8 y] 5)):=by
 subst h h2 h3 h4;have ho:(w.alloc (.cells #[.int .u8 (c.toNat:Int),.int .u8 (d.toNat:Int),.int .u8 (e.toNat:Int),.int .u8 (f.toNat:Int)] 5)).ownsRow w.heap.size 5 1 (.slice (some ⟨w.heap.size,0,none⟩) 4 4) 4 (cellsOf [c,d,e,f]):=yr (e:=5) (size:=1) w #[.int .u8 (c.toNat:Int),.int .u8 (d.toNat:Int),.int .u8 (e.toNat:Int),.int .u8 (f.toNat:Int)] 4 (aS _) (by unfold maxLen;omega) rfl;exact dT (P:=prog) ho 147 9 underlying147 underlying5 underlying9
theorem lz (h:x<256):((UInt8.ofNat x).toNat:Int)=(x:Int):=by
 simp;omega
def zR (o:Option Nat):Int:=match o with|some v=>v|none=> -1
theorem Nj (s:ByteArray) (i k base en:Nat) (w:World) (hs:s.size≤281474976710656) (hi:i≤281474976710657) (mP:1≤k) (hk:k≤8) (tl:en≤s.size) (cT:base=8∨base=16):
  Calls prog 144 #[.string s,.int .i64 (i:Int),.int .i64 (k:Int),.int .i64 (base:Int),.int .i64 (en:Int)] w fun e w'=>e= .returned (.int .i64 (zR (fh ((s.data.toList.take en).drop i) k base)))∧w=w':=by
 obtain⟨V,hV⟩: ∃V,V=zR (fh ((s.data.toList.take en).drop i) k base):=⟨_,rfl⟩;rw[←hV];have hlen:((s.data.toList.take en).drop i).length=en-i:=by rw[nP,nO,af,mS tl]
 by_cases ho:en<i+k
 ·have hT:V= -1:=by
   rw[hV,fh,az (by rw[hlen];omega)];rfl
  have HT:=ae hT;clear hV hT hlen cT;go_enter func144,ntmps144;go_wp2_with fail;go_ret;exact⟨aH HT.out.symm,rfl⟩
 ·obtain⟨D,hD⟩: ∃D,D=((s.data.toList.take en).drop i).take k:=⟨_,rfl⟩;have hDl:D.length=k:=by rw[hD,nO,hlen];omega
  have Lu: ∀j,j<k→i+j<s.size:=fun j h=>by omega
  have hDE:D.drop k=[]:=tY (by omega);have af7: ∀j (h:j<k),D.drop j=s[i+j]'(Lu j h)::D.drop (j+1):=by
   intro j h;rw[o5 (by rw[hDl];exact h)]
   congr 1
   subst hD;simp only[Iy,vr];exact gl _ _ _
  have hR:fh ((s.data.toList.take en).drop i) k base=fA base 0 D:=by
   rw[fh,ah (by rw[hlen];omega),hD]
  rw[hR]at hV;generalize kF:fA base 0 D=R at hV;have HV:=ae hV;have HT:=ae kF;have HD:=ae af7;have Al:=ae hDE;clear hV kF af7 hR hDl hD hlen hDE;rcases cT with rfl|rfl
  all_goals
   go_enter func144,ntmps144;go_wp2_with fail;go_loop [11,12] (fun n x=> ∃j v:Nat,j≤k∧x= .int .i64 j∧n= .int .i64 v∧v≤4294967295∧Hid (v<16^j)∧Hid (fA _ v (D.drop j)=R)) (fun _ x=>k-(intOf x).toNat)
   case atStart=>exact⟨0,0,aV _,rfl,rfl,by omega,ae (by simp),HT.out⟩
   case round=>
    obtain⟨j,v,hj,rfl,rfl,hv,abe,hT⟩:=hrel;clear HT;by_cases aA:j<k
    ·have Xq:i+j<s.size:=by omega
     have kF:=hT.out;rw[HD.out j aA,fA]at kF;clear hT;cases hd:fa s[i+j]with
     |none=>
      have qK:=EH hd;rw[hd]at kF;have HT:=ae kF;clear kF hd;go_wp2_with (go_at_call 154;refine(xP _ _).mono ?_;rintro e w' ⟨rfl,rfl⟩;rw[qK]);go_ret;exact⟨aH (by rw[HV.out,←HT.out];rfl),rfl⟩
     |some d=>
      have qK:=EG hd;have ajB:=EI hd;rw[hd]at kF;simp only at kF;clear hd;split at kF
      ·rename_i R8;have HT:=ae kF;have hp:=abe.out;have Ai:(16:Nat)^(j+1)=16^j*16:=ep ..;have Xj:(16:Nat)^(j+1)≤16^8:=dZ (by omega) (by omega);have hq:(v*16+d)<16^(j+1):=by rw[Ai];omega
       have tS:(v*8+d)<16^(j+1):=by omega
       have ZR:v*16+d≤4294967295:=by
        have:(16:Nat)^8=4294967296:=by decide
        omega
       have HQ:=ae hq;have HQ2:=ae tS;clear kF hp Ai Xj hq tS abe;go_wp2_with (go_at_call 154;refine(xP _ _).mono ?_;rintro e w' ⟨rfl,rfl⟩;rw[qK]);refine⟨⟨trivial,?_⟩,?_⟩
       ·(repeat apply Exists.intro)
        first
         |exact⟨⟨j+1,_,by omega,by go_num,by go_num,by omega,HQ.out,HT.out⟩,rfl⟩
         |exact⟨⟨j+1,_,by omega,by go_num,by go_num,by omega,HQ2.out,HT.out⟩,rfl⟩
       ·simp[intOf];omega
      ·rename_i R8;have HT:=ae kF;clear kF;go_wp2_with (go_at_call 154;refine(xP _ _).mono ?_;rintro e w' ⟨rfl,rfl⟩;rw[qK])
       all_goals (go_ret;exact⟨aH (by rw[HV.out,←HT.out];rfl),rfl⟩)
    ·have hjk:j=k:=by omega
     have kF:=hT.out;rw[hjk,Al.out,fA]at kF;have HT:=ae kF;clear hT kF abe;go_wp2_with fail;go_ret;exact⟨aH (by rw[HV.out,←HT.out];rfl),rfl⟩
set_option maxRecDepth 1000000 in
theorem iV (n:Int) (w:World):
  Calls prog 108 #[.int .i64 n] w fun e w'=>e= .returned (.bool (decide (0≤n)&&bg n.toNat))∧w=w':=by
 go_enter func108,ntmps108;go_wp2
 all_goals (go_ret;exact⟨ar (by rw[eo];simp[bg];omega),rfl⟩)
theorem JE (n:Int) (w:World):
  Calls prog 91 #[.int .i64 n] w fun e w'=>e= .returned (.string ⟨(gm n).toArray⟩)∧Below w.heap.size w w':=by
 obtain⟨b,hb⟩: ∃b,b=(decide (0≤n)&&bg n.toNat):=⟨_,rfl⟩;cases b
 ·have hE:gm n=[]:=by
   rw[gm,ah];rintro⟨h1,h2⟩;rw[h2,dO h1]at hb;cases hb
  have HE:=ae hE;have HB:=ae hb;clear hE hb;go_enter func91,ntmps91;go_wp2_with fail;refine(iV _ _).mono ?_;rintro e w' ⟨rfl,rfl⟩;rw[←HB.out];go_wp2_with fail;go_ret;exact⟨by rw[HE.out];rfl,aU _ _⟩
 ·have aQ:=hb.symm;rw[kH,ua]at aQ;obtain⟨m,rfl⟩: ∃m:Nat,n=m:=⟨n.toNat,by omega⟩;have hE:gm (m:Int)=fS m:=by rw[gm,az aQ,mn]
  have hle:m≤1114111:=by have:=uk aQ.2;simpa using this
  rw[hE];have HB:=ae hb;clear hb aQ hE;by_cases h1:m<128
  ·obtain⟨c1,jK⟩: ∃c,c=UInt8.ofNat (m):=⟨_,rfl⟩;have hF:fS m=[c1]:=by rw[fS,az h1,jK]
   have HF:=ae hF;have LN:=Bp w (m:Int) c1 (by have:=lz (x:=m) (by omega);rw[jK];omega);have bO:=(aU w.heap.size w).alloc (aS _) (.cells #[.int .u8 (m:Int)] 5);have bF:=ae bO;have x1:(m:Int)<128:=by omega
   clear hF bO jK h1;go_enter func91,ntmps91;go_wp2_with fail;refine(iV _ _).mono ?_;rintro e w' ⟨rfl,rfl⟩;rw[←HB.out];go_wp2_with fail;go_ret;exact⟨by rw[HF.out];rfl,bF.out⟩
  ·by_cases h2:m<2048
   ·obtain⟨c1,jK⟩: ∃c,c=UInt8.ofNat (192+m/64):=⟨_,rfl⟩;obtain⟨c2,ko⟩: ∃c,c=UInt8.ofNat (128+m%64):=⟨_,rfl⟩;have hF:fS m=[c1,c2]:=by rw[fS,ah h1,az h2,jK,ko]
    have HF:=ae hF;have LN:=acf w (192+(m:Int)/64) (128+(m:Int)%64) c1 c2 (by have:=lz (x:=192+m/64) (by omega);rw[jK];omega) (by have:=lz (x:=128+m%64) (by omega);rw[ko];omega);have bO:=(aU w.heap.size w).alloc (aS _) (.cells #[.int .u8 (192+(m:Int)/64),.int .u8 (128+(m:Int)%64)] 5);have bF:=ae bO;have x1:128≤(m:Int):=by omega
    have x2:(m:Int)<2048:=by omega
    clear hF bO jK ko h1 h2;go_enter func91,ntmps91;go_wp2_with fail;refine(iV _ _).mono ?_;rintro e w' ⟨rfl,rfl⟩;rw[←HB.out];go_wp2_with fail;go_ret;exact⟨by rw[HF.out];rfl,bF.out⟩
   ·by_cases h3:m<65536
    ·obtain⟨c1,jK⟩: ∃c,c=UInt8.ofNat (224+m/4096):=⟨_,rfl⟩;obtain⟨c2,ko⟩: ∃c,c=UInt8.ofNat (128+m/64%64):=⟨_,rfl⟩;obtain⟨c3,RQ⟩: ∃c,c=UInt8.ofNat (128+m%64):=⟨_,rfl⟩;have hF:fS m=[c1,c2,c3]:=by rw[fS,ah h1,ah h2,az h3,jK,ko,RQ]
     have HF:=ae hF;have LN:=acg w (224+(m:Int)/4096) (128+(m:Int)/64%64) (128+(m:Int)%64) c1 c2 c3 (by have:=lz (x:=224+m/4096) (by omega);rw[jK];omega) (by have:=lz (x:=128+m/64%64) (by omega);rw[ko];omega) (by have:=lz (x:=128+m%64) (by omega);rw[RQ];omega);have bO:=(aU w.heap.size w).alloc (aS _) (.cells #[.int .u8 (224+(m:Int)/4096),.int .u8 (128+(m:Int)/64%64),.int .u8 (128+(m:Int)%64)] 5);have bF:=ae bO;have x1:2048≤(m:Int):=by omega
     have x2:(m:Int)≤65535:=by omega
     have ht:((m:Int)<65536)=True:=aD (by omega);clear hF bO jK ko RQ h1 h2 h3;go_enter func91,ntmps91;go_wp2_with fail;refine(iV _ _).mono ?_;rintro e w' ⟨rfl,rfl⟩;rw[←HB.out];go_wp2_with fail;go_ret;exact⟨by rw[HF.out];rfl,bF.out⟩
    ·obtain⟨c1,jK⟩: ∃c,c=UInt8.ofNat (240+m/262144):=⟨_,rfl⟩;obtain⟨c2,ko⟩: ∃c,c=UInt8.ofNat (128+m/4096%64):=⟨_,rfl⟩;obtain⟨c3,RQ⟩: ∃c,c=UInt8.ofNat (128+m/64%64):=⟨_,rfl⟩;obtain⟨c4,hc4⟩: ∃c,c=UInt8.ofNat (128+m%64):=⟨_,rfl⟩;have hF:fS m=[c1,c2,c3,c4]:=by rw[fS,ah h1,ah h2,ah h3,jK,ko,RQ,hc4]
     have HF:=ae hF;have LN:=ach w (240+(m:Int)/262144) (128+(m:Int)/4096%64) (128+(m:Int)/64%64) (128+(m:Int)%64) c1 c2 c3 c4 (by have:=lz (x:=240+m/262144) (by omega);rw[jK];omega) (by have:=lz (x:=128+m/4096%64) (by omega);rw[ko];omega) (by have:=lz (x:=128+m/64%64) (by omega);rw[RQ];omega) (by have:=lz (x:=128+m%64) (by omega);rw[hc4];omega);have bO:=(aU w.heap.size w).alloc (aS _) (.cells #[.int .u8 (240+(m:Int)/262144),.int .u8 (128+(m:Int)/4096%64),.int .u8 (128+(m:Int)/64%64),.int .u8 (128+(m:Int)%64)] 5);have bF:=ae bO;have x1:65535<(m:Int):=by omega
     have ht:((m:Int)<65536)=False:=bT (by omega);clear hF bO jK ko RQ hc4 h1 h2 h3;go_enter func91,ntmps91;go_wp2_with fail;refine(iV _ _).mono ?_;rintro e w' ⟨rfl,rfl⟩;rw[←HB.out];go_wp2_with fail;go_ret;exact⟨by rw[HF.out];rfl,bF.out⟩
theorem Q3 (s:ByteArray) (i v:Nat) (w:World) (hs:s.size≤281474976710656) (h1:1≤v) (h4:v≤4) (hi:i+v≤s.size):
  Calls prog 90 #[.string s,.int .i64 (i:Int),.int .i64 (v:Int)] w fun e w'=>e= .returned (.int .i64 (jS s.data.toList i v))∧w=w':=by
 have cI:=ay (s:=s) (i:=i) (by omega);have hc:(s[i]'(by omega)).toNat<256:=uc _;obtain⟨V,hV⟩: ∃V,V=jS s.data.toList i v:=⟨_,rfl⟩;rw[←hV];rw[jS,cI]at hV;by_cases Sr:v=1
 ·subst Sr;have hV2:V=((s[i]'(by omega)).toNat:Int):=by rw[hV];simp[gP,FP]
  have HV:=ae hV2;clear hV hV2 cI;go_enter func90,ntmps90;go_wp2_with fail;go_ret;exact⟨aH HV.out.symm,rfl⟩
 ·have hgb:=Uz s.data.toList i (((s[i]'(by omega)).toNat:Int)-FP v) (by unfold FP;(repeat' split)<;>omega);have hv:v=2∨v=3∨v=4:=by omega
  obtain⟨b3,b4,O,e3,e4,hO,age⟩: ∃(b3 b4:Bool) (O:Int),((v:Int)==3)=b3∧((v:Int)==4)=b4∧FP v=O∧((b3=false∧b4=false∧O=192)∨(b3=true∧b4=false∧O=224)∨(b3=false∧b4=true∧O=240)):=
   ⟨_,_,_,rfl,rfl,rfl,by rcases hv with rfl|rfl|rfl<;>decide⟩
  rw[hO]at hV hgb;have e1:((v:Int)==1)=false:=bN.2 (by omega);have his: ∀j,j+1<v→i+(j+1)<s.size:=fun j h=>by omega
  have HI:=ae his;have abf:i<s.size:=by omega
  clear cI hv hO his;obtain⟨N0,sS⟩: ∃N0,N0=((s[i]'abf).toNat:Int)-O:=⟨_,rfl⟩;rw[←sS]at hV hgb;have HN:=ae sS;have HG:=ae hgb;have HV:=ae hV;clear hV hgb sS;rcases age with⟨rfl,rfl,rfl⟩|⟨rfl,rfl,rfl⟩|⟨rfl,rfl,rfl⟩
  all_goals
   go_enter func90,ntmps90;go_wp2_with fail;go_loop [8,9] (fun n x=> ∃(j:Nat) (y:Int),j+1≤v∧x= .int .i64 ((j:Int)+1)∧n= .int .i64 y∧ -100000000≤y∧y≤100000000∧Hid (y=gP s.data.toList i N0 j)) (fun _ x=>v-(intOf x).toNat)
   case atStart=>
    have h0:=HG.out 0 (by omega);have hN1:=HN.out;rw[gP]at h0;exact⟨0,N0,by omega,rfl,by rw[hN1],h0.1,h0.2,ae rfl⟩
   case round=>
    obtain⟨j,y,hj,rfl,rfl,hy1,hy2,hY⟩:=hrel;by_cases aA:j+1<v
    ·have af8:=HI.out j aA;have hb:(s[i+(j+1)]).toNat<256:=uc _;have dy:=HG.out (j+1) (by omega);rw[gP,←hY.out,ay af8]at dy;have XU:Hid (y*64+((s[i+(j+1)]).toNat:Int)-128=gP s.data.toList i N0 (j+1)):=ae (by rw[gP,←hY.out,ay af8]);have HS:=ae dy;clear dy hY;go_wp2_with fail;exact⟨⟨j+1,_,by omega,by go_num,rfl,HS.out.1,HS.out.2,XU⟩,by simp[intOf];omega⟩
    ·have hE:V=y:=by rw[HV.out,hY.out,show v-1=j by omega]
     have HE:=ae hE;clear hE hY;go_wp2_with fail;go_ret;exact⟨aH HE.out.symm,rfl⟩
def AT (c:UInt8):Int:=if eB c=true then((lr c).toNat:Int)else-1
def ez (j:Nat):Nat:=match j with|0=>97|1=>98|2=>116|3=>110|4=>118|5=>102|_=>114
theorem mK: ∀c:UInt8,∀k:Fin 7,c.toNat=ez k.val→AT c=(k.val:Int)+7:=
 Ce (P:=fun c=> ∀k:Fin 7,c.toNat=ez k.val→AT c=(k.val:Int)+7) (by decide+kernel)
theorem Q4: ∀c:UInt8,(∀k:Fin 7,c.toNat≠ez k.val)→AT c= -1:=
 Ce (P:=fun c=>(∀k:Fin 7,c.toNat≠ez k.val)→AT c= -1) (by decide+kernel)
theorem mL (h: ∀j,j<k→c.toNat≠ez j) (hm:ez k=m) (hq:((m:Int)==(c.toNat:Int))=false): ∀j,j<k+1→c.toNat≠ez j:=by
 intro j hj;by_cases hjk:j<k
 ·exact h j hjk
 ·have:j=k:=by omega
  subst this;have:=bN.1 hq;omega
theorem Y5: ∀k:Fin 7,(((⟨#[97,7,98,8,116,9,110,10,118,11,102,12,114,13]⟩:ByteArray)[2*k.val]'(by have:=k.isLt;simp[ByteArray.size];omega)).toNat:Int)=ez k.val:=by decide
theorem Y6: ∀k:Fin 7,(((⟨#[97,7,98,8,116,9,110,10,118,11,102,12,114,13]⟩:ByteArray)[2*k.val+1]'(by have:=k.isLt;simp[ByteArray.size];omega)).toNat:Int)=(k.val:Int)+7:=by decide
theorem ia (c:UInt8) (w:World):
  Calls prog 143 #[.int .u8 (c.toNat:Int),.string ⟨#[97,7,98,8,116,9,110,10,118,11,102,12,114,13]⟩] w fun e w'=>e= .returned (.int .i64 (AT c))∧w=w':=by
 obtain⟨s,hs⟩: ∃s:ByteArray,s=⟨#[97,7,98,8,116,9,110,10,118,11,102,12,114,13]⟩:=⟨_,rfl⟩;rw[←hs];have iI:s.size=14:=by rw[hs];rfl
 have he: ∀k:Fin 7,((s[2*k.val]'(by omega)).toNat:Int)=ez k.val:=by
  subst hs;exact Y5
 have hv: ∀k:Fin 7,((s[2*k.val+1]'(by omega)).toNat:Int)=(k.val:Int)+7:=by
  subst hs;exact Y6
 have HE:=ae he;have HV:=ae hv;clear hs he hv;go_enter func143,ntmps143;go_wp2_with fail;go_loop [5] (fun t=> ∃k:Nat,k≤7∧t= .int .i64 ((2*k:Nat):Int)∧Hid (∀j,j<k→c.toNat≠ez j)) (fun t=>14-(intOf t).toNat)
 case atStart=>exact⟨0,by omega,rfl,ae (fun j hj=>absurd hj (by omega))⟩
 case round=>
  obtain⟨k,hk,rfl,fG⟩:=hrel;have nZ:k=0∨k=1∨k=2∨k=3∨k=4∨k=5∨k=6∨k=7:=by omega
  clear hk;rcases nZ with rfl|rfl|rfl|rfl|rfl|rfl|rfl|rfl
  ·have he:=HE ⟨0,by omega⟩;have hv:=HV ⟨0,by omega⟩;simp only[ez,Nat.reduceMul,Nat.reduceAdd]at he hv;cases hq:((97:Int)==(c.toNat:Int))
   ·have HM:=ae (mL fG (m:=97) rfl hq);clear fG;go_wp2_with fail;exact⟨⟨1,by omega,rfl,HM⟩,by simp[intOf]⟩
   ·have hE:=ae (mK c ⟨0,by omega⟩ (by have:=cx.1 hq;simp only[ez];omega));clear fG;go_wp2_with fail;go_ret;exact⟨aH (by rw[hE.out];rfl),rfl⟩
  ·have he:=HE ⟨1,by omega⟩;have hv:=HV ⟨1,by omega⟩;simp only[ez,Nat.reduceMul,Nat.reduceAdd]at he hv;cases hq:((98:Int)==(c.toNat:Int))
   ·have HM:=ae (mL fG (m:=98) rfl hq);clear fG;go_wp2_with fail;exact⟨⟨2,by omega,rfl,HM⟩,by simp[intOf]⟩
   ·have hE:=ae (mK c ⟨1,by omega⟩ (by have:=cx.1 hq;simp only[ez];omega));clear fG;go_wp2_with fail;go_ret;exact⟨aH (by rw[hE.out];rfl),rfl⟩
  ·have he:=HE ⟨2,by omega⟩;have hv:=HV ⟨2,by omega⟩;simp only[ez,Nat.reduceMul,Nat.reduceAdd]at he hv;cases hq:((116:Int)==(c.toNat:Int))
   ·have HM:=ae (mL fG (m:=116) rfl hq);clear fG;go_wp2_with fail;exact⟨⟨3,by omega,rfl,HM⟩,by simp[intOf]⟩
   ·have hE:=ae (mK c ⟨2,by omega⟩ (by have:=cx.1 hq;simp only[ez];omega));clear fG;go_wp2_with fail;go_ret;exact⟨aH (by rw[hE.out];rfl),rfl⟩
  ·have he:=HE ⟨3,by omega⟩;have hv:=HV ⟨3,by omega⟩;simp only[ez,Nat.reduceMul,Nat.reduceAdd]at he hv;cases hq:((110:Int)==(c.toNat:Int))
   ·have HM:=ae (mL fG (m:=110) rfl hq);clear fG;go_wp2_with fail;exact⟨⟨4,by omega,rfl,HM⟩,by simp[intOf]⟩
   ·have hE:=ae (mK c ⟨3,by omega⟩ (by have:=cx.1 hq;simp only[ez];omega));clear fG;go_wp2_with fail;go_ret;exact⟨aH (by rw[hE.out];rfl),rfl⟩
  ·have he:=HE ⟨4,by omega⟩;have hv:=HV ⟨4,by omega⟩;simp only[ez,Nat.reduceMul,Nat.reduceAdd]at he hv;cases hq:((118:Int)==(c.toNat:Int))
   ·have HM:=ae (mL fG (m:=118) rfl hq);clear fG;go_wp2_with fail;exact⟨⟨5,by omega,rfl,HM⟩,by simp[intOf]⟩
   ·have hE:=ae (mK c ⟨4,by omega⟩ (by have:=cx.1 hq;simp only[ez];omega));clear fG;go_wp2_with fail;go_ret;exact⟨aH (by rw[hE.out];rfl),rfl⟩
  ·have he:=HE ⟨5,by omega⟩;have hv:=HV ⟨5,by omega⟩;simp only[ez,Nat.reduceMul,Nat.reduceAdd]at he hv;cases hq:((102:Int)==(c.toNat:Int))
   ·have HM:=ae (mL fG (m:=102) rfl hq);clear fG;go_wp2_with fail;exact⟨⟨6,by omega,rfl,HM⟩,by simp[intOf]⟩
   ·have hE:=ae (mK c ⟨5,by omega⟩ (by have:=cx.1 hq;simp only[ez];omega));clear fG;go_wp2_with fail;go_ret;exact⟨aH (by rw[hE.out];rfl),rfl⟩
  ·have he:=HE ⟨6,by omega⟩;have hv:=HV ⟨6,by omega⟩;simp only[ez,Nat.reduceMul,Nat.reduceAdd]at he hv;cases hq:((114:Int)==(c.toNat:Int))
   ·have HM:=ae (mL fG (m:=114) rfl hq);clear fG;go_wp2_with fail;exact⟨⟨7,by omega,rfl,HM⟩,by simp[intOf]⟩
   ·have hE:=ae (mK c ⟨6,by omega⟩ (by have:=cx.1 hq;simp only[ez];omega));clear fG;go_wp2_with fail;go_ret;exact⟨aH (by rw[hE.out];rfl),rfl⟩
  ·have hE:=ae (Q4 c (fun k=>fG k.val k.isLt));clear fG;go_wp2_with fail;go_ret;exact⟨aH (by rw[hE.out]),rfl⟩
def Vw (w:World) (n:Nat) (e:Ending) (w':World):Prop:= ∃r:Int,e= .returned (.tuple #[.int .i32 r,.int .i64 (n:Int)])∧Below w.heap.size w w'
theorem Vx (s:ByteArray) (i:Nat) (w:World) (hs:s.size≤281474976710656) (hi:i<s.size):
  Calls prog 72 #[.string s,.int .i64 (i:Int)] w (Vw w (tB s.data.toList i)):=by
 obtain⟨N,hN⟩: ∃N,N=tB s.data.toList i:=⟨_,rfl⟩;rw[←hN];have HN:=ae hN;clear hN;have s9:decide ((i:Int)<0)=false:=by simp
 have hi1:decide (s.size≤i)=false:=by simpa using hi
 have wZ:decide ((s.size:Int)≤(i:Int))=false:=by simpa using hi
 go_enter func72,ntmps72;go_wp2_with fail;go_loopw [6] (fun t wr=> ∃v:Nat,1≤v∧v≤5∧i+v≤s.size+1∧t= .int .i64 v∧Below w.heap.size w wr∧Hid (∀u,1≤u→u<v→gm (jS s.data.toList i u)≠(s.data.toList.drop i).take u)) (fun t _=>5-(intOf t).toNat)
 case atStart=>exact⟨1,by omega,by omega,by omega,rfl,aU _ _,ae (fun u h1 h2=>by omega)⟩
 case round=>
  obtain⟨v,Sr,hv5,hiv,rfl,bO,ti⟩:=hrel;by_cases hc:v≤4∧i+v≤s.size
  ·obtain⟨hv4,af9⟩:=hc;go_wp2_with fail;refine(Q3 s i v _ hs Sr hv4 af9).mono ?_;rintro e w1 ⟨rfl,rfl⟩;obtain⟨n,hn⟩: ∃n,n=jS s.data.toList i v:=⟨_,rfl⟩;rw[←hn];have HG:=ae hn;clear hn;go_wp2_with fail;refine(JE n _).mono ?_;rintro e w1 ⟨rfl,aY⟩;obtain⟨F,hF⟩: ∃F:ByteArray,F=⟨(gm n).toArray⟩:=⟨_,rfl⟩;have hFd:F.data.toList=gm n:=by rw[hF]
   have hFs:F.size≤4:=by rw[←af,hFd];exact Qn n
   have HB:=ae (bO.trans (aY.mono bO.size));rw[←hF];have HFd:=ae hFd;clear hF hFd aY bO;by_cases hh:gm n=(s.data.toList.drop i).take v
   ·have hNv:=Qm (l:=s.data.toList) (i:=i) (w:=v) (by rw[af];exact af9) Sr hv4 (by rw[←HG.out];exact hh);have iI:F.size=v:=by rw[←af,HFd.out,hh,nO,nP,af];omega
    have hex:((s.extract i (i+v)).toList==F.toList)=true:=by
     rw[cx,nM,nM,HFd.out,hh,Lib.extract_data,show i+v-i=v by omega]
    have HNv:=ae hNv;clear hNv hh ti;go_wp2_with fail;go_ret2;exact⟨_,by rw[HN.out,HNv.out];rfl,HB⟩
   ·have S7: ∀u,1≤u→u<v+1→gm (jS s.data.toList i u)≠(s.data.toList.drop i).take u:=by
     intro u h1 h2;by_cases hu:u<v
     ·exact ti u h1 hu
     ·obtain rfl:u=v:=by omega
      rw[←HG.out];exact hh
    have hex:((s.extract i (i+v)).toList==F.toList)=false:=by
     rw[bN,nM,nM,HFd.out,Lib.extract_data,show i+v-i=v by omega];exact fun e=>hh e.symm
    have Am:=ae S7;clear hh ti S7;cases iI:((F.size:Int)==(v:Int))
    all_goals
     go_wp2_with fail;exact⟨⟨v+1,by omega,by omega,by omega,by go_num,HB,Am⟩,by simp[intOf];omega⟩
  ·have sS:=Mz (l:=s.data.toList) (i:=i) (w:=v) (by rw[af];exact hi) (by rw[af];omega) ti;have HN0:=ae sS;clear sS ti;by_cases hv4:v≤4
   ·have hx:((v:Int)≤(s.size:Int)-(i:Int))=False:=bT (by omega);clear hc;go_wp2_with fail;go_ret2;exact⟨_,by rw[HN.out,HN0.out];rfl,bO⟩
   ·have hx:((v:Int)≤4)=False:=bT (by omega);clear hc;go_wp2_with fail;go_ret2;exact⟨_,by rw[HN.out,HN0.out];rfl,bO⟩
theorem j7 (s:ByteArray) (w:World) (hs:s.size≤281474976710656):
  Calls prog 51 #[.string s] w fun e w'=>e= .returned (.bool (valid s.data.toList))∧Below w.heap.size w w':=by
 have h0:=BU s.data.toList;obtain⟨V,hV⟩: ∃V,V=valid s.data.toList:=⟨_,rfl⟩;rw[←hV]at h0 ⊢
 have HZ:=ae h0;clear hV h0;go_enter func51,ntmps51;go_wp2_with fail;go_loopw [3] (fun t wr=> ∃k:Nat,k≤s.size∧t= .int .i64 k∧Below w.heap.size w wr∧Hid (vE s.data.toList k=V)) (fun t _=>s.size-(intOf t).toNat)
 case atStart=>exact⟨0,by omega,rfl,aU _ _,ae HZ⟩
 case round=>
  obtain⟨k,hk,rfl,bO,gM⟩:=hrel;by_cases aA:k<s.size
  ·go_wp2_with fail;refine(Vx s k _ hs aA).mono ?_;rintro e w1 ⟨r,rfl,aY⟩;have ox:=bO.trans (aY.mono bO.size);clear bO aY;cases hb:bad s.data.toList k
   ·have eC:=vM s.data.toList k;have AD:=Tk s.data.toList k (by rw[af];exact aA);rw[af]at AD;have HS:=ae ((BV (by rw[af];exact aA) hb).trans gM);have hnw:tB s.data.toList k=(dec s.data.toList k).2:=by rw[tB,hb,ah (by simp)]
    rw[hnw];generalize (dec s.data.toList k).2=n at*
    have St:((n:Int)==0)=false:=bN.2 (by omega);clear hnw gM hb;go_wp2_with fail;exact⟨⟨k+n,by omega,by apply IM;omega,ox,HS⟩,by simp[intOf];omega⟩
   ·have hnw:tB s.data.toList k=0:=by rw[tB,hb,az rfl]
    have hE:=(EC (by rw[af];exact aA) hb).symm.trans gM;rw[hnw];have HE:=ae hE;clear hnw hE gM hb;go_wp2_with fail;go_ret;exact⟨ar HE,ox⟩
  ·have hE:=(EB (l:=s.data.toList) (i:=k) (by rw[af];omega)).symm.trans gM;have HE:=ae hE;clear hE gM;go_wp2_with fail;go_ret;exact⟨ar HE,bO⟩
theorem nJ (s:ByteArray) (x y z:Int) (i k base en:Nat) (hx:x=(i:Int)) (hy:y=(k:Int)) (hz:z=(base:Int)) (w:World) (hs:s.size≤281474976710656) (hi:i≤281474976710657) (mP:1≤k) (hk:k≤8) (tl:en≤s.size) (cT:base=8∨base=16):
  Calls prog 144 #[.string s,.int .i64 x,.int .i64 y,.int .i64 z,.int .i64 (en:Int)] w fun e w'=>e= .returned (.int .i64 (zR (fh ((s.data.toList.take en).drop i) k base)))∧w=w':=by
 subst hx hy hz;exact Nj s i k base en w hs hi mP hk tl cT
def kI (q:UInt8) (l:List UInt8):List UInt8×Nat:=match dI q l with|none=>([],0)|some (b,n)=>(b,n+1)
def nV (w:World) (r:List UInt8×Nat) (e:Ending) (w':World):Prop:=e= .returned (.tuple #[.string ⟨r.1.toArray⟩,.int .i64 (r.2:Int)])∧Below w.heap.size w w'
theorem j8 {r:List UInt8×Nat} {b:List UInt8} (h:r=(b,n)) (hb:Below w.heap.size w w'):nV w r (.returned (.tuple #[.string ⟨b.toArray⟩,.int .i64 (n:Int)])) w':=by
 subst h;exact⟨rfl,hb⟩
theorem kZ {r:List UInt8×Nat} (h:r=([],0)) (hb:Below w.heap.size w w'):nV w r (.returned (.tuple #[.string ⟨#[]⟩,.int .i64 0])) w':=j8 h hb
theorem oH (h:i<en) (tl:en≤s.size):(s.data.toList.take en).drop i=(s[i]'(by omega))::(s.data.toList.take en).drop (i+1):=by
 rw[o5 (by rw[nO,af];omega)]
 congr 1
 rw[Iy];exact gl _ _ _
theorem C9 (s:ByteArray) (i en:Nat) (q:UInt8) (w:World) (hs:s.size≤281474976710656) (tl:en≤s.size) (hi:i<en) (h:en≤i+1):
  Calls prog 132 #[.string s,.int .i64 (i:Int),.int .i64 (en:Int),.int .u8 (q.toNat:Int)] w (nV w (kI q ((s.data.toList.take en).drop (i+1)))):=by
 have hE:kI q ((s.data.toList.take en).drop (i+1))=([],0):=by
  rw[tY (by rw[nO];omega)];rfl
 have HE:=ae hE;clear hE;go_enter func132,ntmps132;go_wp2_with fail;go_ret2;exact kZ HE.out (aU _ _)
theorem Ad (s:ByteArray) (i en:Nat) (q:UInt8) (w:World) (hs:s.size≤281474976710656) (tl:en≤s.size) (hi:i+1<en) (hq:q=34∨q=39) (hc:s[i+1]'(by omega)=q∨s[i+1]'(by omega)=92):
  Calls prog 132 #[.string s,.int .i64 (i:Int),.int .i64 (en:Int),.int .u8 (q.toNat:Int)] w (nV w (kI q ((s.data.toList.take en).drop (i+1)))):=by
 have hE:kI q ((s.data.toList.take en).drop (i+1))=([s[i+1]'(by omega)],2):=by
  rw[oH hi tl];generalize s[i+1]'(by omega)=c at hc;have hp:eB c=false:=by rcases hc with rfl|rfl<;>(first|(rcases hq with rfl|rfl<;>rfl)|rfl)
  simp[kI,dI,hp,hc.symm]
 have HE:=ae hE;have LN:=Bp w _ (s[i+1]'(by omega)) rfl;have HB:=ae ((aU w.heap.size w).alloc (aS _) (.cells #[.int .u8 ((s[i+1]'(by omega)).toNat:Int)] 5));have hin:i+1<s.size:=by omega
 clear hE;cases sU:((s[i+1].toNat:Int)==(q.toNat:Int))
 ·have h92:((s[i+1].toNat:Int)==92)=true:=by
   rcases hc with h|h
   ·rw[h]at sU;simp at sU
   ·rw[h];rfl
  clear hc hq;go_enter func132,ntmps132;go_wp2_with fail;go_ret2;exact j8 HE.out HB.out
 ·clear hc hq;go_enter func132,ntmps132;go_wp2_with fail;go_ret2;exact j8 HE.out HB.out
theorem yb (s:ByteArray) (i en:Nat) (q:UInt8) (w:World) (hs:s.size≤281474976710656) (tl:en≤s.size) (hi:i+1<en) (sU:((s[i+1]'(by omega)).toNat:Int)≠(q.toNat:Int)) (qD:((s[i+1]'(by omega)).toNat:Int)≠92) (hp:eB (s[i+1]'(by omega))=true):
  Calls prog 132 #[.string s,.int .i64 (i:Int),.int .i64 (en:Int),.int .u8 (q.toNat:Int)] w (nV w (kI q ((s.data.toList.take en).drop (i+1)))):=by
 have hin:i+1<s.size:=by omega
 have hE:kI q ((s.data.toList.take en).drop (i+1))=([lr s[i+1]],2):=by
  rw[oH hi tl];simp[kI,dI,hp]
 have hl:AT s[i+1]=((lr s[i+1]).toNat:Int):=by rw[AT,az hp]
 obtain⟨p,Ai⟩: ∃p,p=lr s[i+1]:=⟨_,rfl⟩;have arp:(p.toNat:Int)≤13:=by
  rw[Ai];unfold lr;repeat' split
  all_goals decide
 rw[←Ai]at hE hl;have HE:=ae hE;have LN:=Bp w _ p rfl;have HB:=ae ((aU w.heap.size w).alloc (aS _) (.cells #[.int .u8 (p.toNat:Int)] 5));have e1:=bN.2 sU;have e2:=bN.2 qD;clear hE hp Ai sU qD;go_enter func132,ntmps132;go_wp2_with fail;refine(ia _ _).mono ?_;rintro e w1 ⟨rfl,rfl⟩;rw[hl];go_wp2_with fail;go_ret2;exact j8 HE.out HB.out
theorem G1 (s:ByteArray) (i en:Nat) (q:UInt8) (w:World) (hs:s.size≤281474976710656) (tl:en≤s.size) (hi:i+1<en) (hq:q=34∨q=39) (hc:s[i+1]'(by omega)=120):
  Calls prog 132 #[.string s,.int .i64 (i:Int),.int .i64 (en:Int),.int .u8 (q.toNat:Int)] w (nV w (kI q ((s.data.toList.take en).drop (i+1)))):=by
 have hin:i+1<s.size:=by omega
 have hql:(q.toNat:Int)=34∨(q.toNat:Int)=39:=by
  rcases hq with rfl|rfl
  ·exact .inl rfl
  ·exact .inr rfl
 have Tx:(s[i+1].toNat:Int)=120:=by rw[hc];rfl
 have tS: ¬((120:UInt8)=92∨(120:UInt8)=q):=by rcases hq with rfl|rfl<;>decide
 have hE:kI q ((s.data.toList.take en).drop (i+1))=match fh ((s.data.toList.take en).drop (i+1+1)) 2 16 with|some v=>([UInt8.ofNat v],4)|none=>([],0):=by
  rw[oH hi tl,hc];simp only[kI,dI,ah tS,show eB 120=false from rfl,lk,iw,kK];cases fh ((s.data.toList.take en).drop (i+1+1)) 2 16<;>rfl
 have hl:AT s[i+1]= -1:=by rw[hc];decide
 have e1:((s[i+1].toNat:Int)==(q.toNat:Int))=false:=bN.2 (by omega);have e2:((s[i+1].toNat:Int)==92)=false:=bN.2 (by omega);have e3:((s[i+1].toNat:Int)==120)=true:=cx.2 Tx;cases hd:fh ((s.data.toList.take en).drop (i+1+1)) 2 16 with
 |none=>
  rw[hd]at hE;have HE:=ae hE;have HD:=ae hd;clear hE hd hq hql Tx tS hc;go_enter func132,ntmps132;go_wp2_with fail;refine(ia _ _).mono ?_;rintro e w1 ⟨rfl,rfl⟩;rw[hl];go_wp2_with fail;refine(nJ s _ _ _ (i+2) 2 16 en (by omega) (by rfl) (by rfl) _ hs (by omega) (by omega) (by omega) tl (.inr rfl)).mono ?_;rintro e w1 ⟨rfl,rfl⟩;rw[HD.out,zR];go_wp2_with fail;go_ret2;exact kZ HE.out (aU _ _)
 |some v=>
  rw[hd]at hE;simp only at hE;have hv:=si (by omega) hd;obtain⟨x,hx⟩: ∃x,x=UInt8.ofNat v:=⟨_,rfl⟩;have hxv:(v:Int)=(x.toNat:Int):=by rw[hx,lz (by omega)]
  rw[←hx]at hE;have HE:=ae hE;have HD:=ae hd;have LN:=Bp w (v:Int) x hxv;have HB:=ae ((aU w.heap.size w).alloc (aS _) (.cells #[.int .u8 (v:Int)] 5));have Pr:(v:Int)≤255:=by omega
  clear hE hd hq hql Tx tS hc hx hxv hv;go_enter func132,ntmps132;go_wp2_with fail;refine(ia _ _).mono ?_;rintro e w1 ⟨rfl,rfl⟩;rw[hl];go_wp2_with fail;refine(nJ s _ _ _ (i+2) 2 16 en (by omega) (by rfl) (by rfl) _ hs (by omega) (by omega) (by omega) tl (.inr rfl)).mono ?_;rintro e w1 ⟨rfl,rfl⟩;rw[HD.out,zR];go_wp2_with fail;go_ret2;exact j8 HE.out HB.out
def XV (D:Option Nat):List UInt8×Nat:=match D with|some v=>(if v≤255 then([UInt8.ofNat v],4)else([],0))|none=>([],0)
theorem G2 (s:ByteArray) (i en:Nat) (q:UInt8) (w:World) (hs:s.size≤281474976710656) (tl:en≤s.size) (hi:i+1<en) (hq:q=34∨q=39) (hc:s[i+1]'(by omega)=117∨s[i+1]'(by omega)=85):
  Calls prog 132 #[.string s,.int .i64 (i:Int),.int .i64 (en:Int),.int .u8 (q.toNat:Int)] w (nV w (kI q ((s.data.toList.take en).drop (i+1)))):=by
 have hin:i+1<s.size:=by omega
 have hql:(q.toNat:Int)=34∨(q.toNat:Int)=39:=by
  rcases hq with rfl|rfl
  ·exact .inl rfl
  ·exact .inr rfl
 obtain⟨k,b,hk,hE,e4,e5,Xz⟩: ∃(k:Nat) (b:Bool),(k=4∨k=8)∧(kI q ((s.data.toList.take en).drop (i+1))=match fh ((s.data.toList.take en).drop (i+1+1)) k 16 with|some v=>(if bg v then(fS v,2+k)else([],0))|none=>([],0))∧
   ((s[i+1].toNat:Int)==117)=b∧((s[i+1].toNat:Int)==85)= !b∧((b=true∧k=4∧(s[i+1].toNat:Int)=117)∨(b=false∧k=8∧(s[i+1].toNat:Int)=85)):=by
  rcases hc with hc|hc
  ·refine⟨4,true,.inl rfl,?_,by rw[hc];rfl,by rw[hc];rfl,.inl ⟨rfl,rfl,by rw[hc];rfl⟩⟩;have tS: ¬((117:UInt8)=92∨(117:UInt8)=q):=by rcases hq with rfl|rfl<;>decide
   rw[oH hi tl,hc];simp only[kI,dI,ah tS,show eB 117=false from rfl,lk,iw,kK,show ¬((117:UInt8)=120)from by decide];cases fh ((s.data.toList.take en).drop (i+1+1)) 4 16 with
   |none=>rfl
   |some v=>cases h:bg v<;>simp[h]
  ·refine⟨8,false,.inr rfl,?_,by rw[hc];rfl,by rw[hc];rfl,.inr ⟨rfl,rfl,by rw[hc];rfl⟩⟩;have tS: ¬((85:UInt8)=92∨(85:UInt8)=q):=by rcases hq with rfl|rfl<;>decide
   rw[oH hi tl,hc];simp only[kI,dI,ah tS,show eB 85=false from rfl,lk,iw,kK,show ¬((85:UInt8)=120)from by decide,show ¬((85:UInt8)=117)from by decide];cases fh ((s.data.toList.take en).drop (i+1+1)) 8 16 with
   |none=>rfl
   |some v=>cases h:bg v<;>simp[h]
 have hl:AT s[i+1]= -1:=by rcases hc with hc|hc<;>(rw[hc];decide)
 have e1:((s[i+1].toNat:Int)==(q.toNat:Int))=false:=bN.2 (by omega);have e2:((s[i+1].toNat:Int)==92)=false:=bN.2 (by omega);have e3:((s[i+1].toNat:Int)==120)=false:=bN.2 (by omega);obtain⟨D,hD⟩: ∃D,D=fh ((s.data.toList.take en).drop (i+1+1)) k 16:=⟨_,rfl⟩;have zQ: ∀w,Calls prog 144 #[.string s,.int .i64 ((i:Int)+2),.int .i64 (k:Int),.int .i64 16,.int .i64 (en:Int)] w fun e w'=>e= .returned (.int .i64 (zR D))∧w=w':=by
  intro w;rw[hD];exact nJ s _ _ _ (i+2) k 16 en (by omega) rfl (by rfl) w hs (by omega) (by omega) (by omega) tl (.inr rfl)
 rw[←hD]at hE;obtain⟨n,hn⟩: ∃n,n=zR D:=⟨_,rfl⟩;obtain⟨R,hR⟩: ∃R,R=kI q ((s.data.toList.take en).drop (i+1)):=⟨_,rfl⟩;rw[←hR]at hE ⊢
 have hEn:(decide (0≤n)&&bg n.toNat)=true∧R=(gm n,2+k)∨(decide (0≤n)&&bg n.toNat)=false∧R=([],0):=by
  cases D with
  |none=>rw[hn];exact .inr ⟨rfl,hE⟩
  |some v=>
   rw[hn];simp only[zR,mn]at hE ⊢
   cases hr:bg v
   ·rw[hr]at hE;exact .inr ⟨by simp,by simpa using hE⟩
   ·rw[hr]at hE;refine .inl ⟨by simp,?_⟩;rw[gm,az ⟨by omega,by simpa using hr⟩];simpa using hE
 rw[←hn]at zQ;have HN:=ae zQ;clear hE hD hR hn zQ hq hql hc;rcases hEn with⟨hr,hE⟩|⟨hr,hE⟩
 ·have HE:=ae hE;have HR:=ae hr;clear hE hr;rcases Xz with⟨rfl,rfl,Xz⟩|⟨rfl,rfl,Xz⟩
  all_goals
   clear hk Xz;go_enter func132,ntmps132;go_wp2_with fail;refine(ia _ _).mono ?_;rintro e w1 ⟨rfl,rfl⟩;rw[hl];go_wp2_with fail;refine(HN.out _).mono ?_;rintro e w1 ⟨rfl,rfl⟩;go_wp2_with fail;refine(iV _ _).mono ?_;rintro e w1 ⟨rfl,rfl⟩;rw[HR.out];go_wp2_with fail;refine(JE _ _).mono ?_;rintro e w1 ⟨rfl,hb⟩;go_wp2_with fail;go_ret2;exact j8 HE.out hb
 ·have HE:=ae hE;have HR:=ae hr;clear hE hr;rcases Xz with⟨rfl,rfl,Xz⟩|⟨rfl,rfl,Xz⟩
  all_goals
   clear hk Xz;go_enter func132,ntmps132;go_wp2_with fail;refine(ia _ _).mono ?_;rintro e w1 ⟨rfl,rfl⟩;rw[hl];go_wp2_with fail;refine(HN.out _).mono ?_;rintro e w1 ⟨rfl,rfl⟩;go_wp2_with fail;refine(iV _ _).mono ?_;rintro e w1 ⟨rfl,rfl⟩;rw[HR.out];go_wp2_with fail;go_ret2;exact kZ HE.out (aU _ _)
theorem Da (s:ByteArray) (i en:Nat) (q:UInt8) (w:World) (hs:s.size≤281474976710656) (tl:en≤s.size) (hi:i+1<en) (sU:((s[i+1]'(by omega)).toNat:Int)≠(q.toNat:Int)) (hn: ∀t∈[(92:UInt8),120,117,85],s[i+1]'(by omega)≠t) (hp:eB (s[i+1]'(by omega))=false):
  Calls prog 132 #[.string s,.int .i64 (i:Int),.int .i64 (en:Int),.int .u8 (q.toNat:Int)] w (nV w (kI q ((s.data.toList.take en).drop (i+1)))):=by
 have hin:i+1<s.size:=by omega
 have bW: ∀t:UInt8,s[i+1]≠t→((s[i+1].toNat:Int)==(t.toNat:Int))=false:=fun t h=>bN.2 (fun e=>h (A4.1 (by omega)))
 have n1:s[i+1]≠92:=hn 92 (by simp);have n2:s[i+1]≠120:=hn 120 (by simp);have n3:s[i+1]≠117:=hn 117 (by simp);have n4:s[i+1]≠85:=hn 85 (by simp);have n5:s[i+1]≠q:=fun e=>sU (by rw[e])
 obtain⟨D,hD⟩: ∃D,D=fh ((s.data.toList.take en).drop (i+1)) 3 8:=⟨_,rfl⟩;have zQ: ∀w,Calls prog 144 #[.string s,.int .i64 ((i:Int)+1),.int .i64 3,.int .i64 8,.int .i64 (en:Int)] w fun e w'=>e= .returned (.int .i64 (zR D))∧w=w':=by
  intro w;rw[hD];exact nJ s _ _ _ (i+1) 3 8 en (by omega) (by rfl) (by rfl) w hs (by omega) (by omega) (by omega) tl (.inl rfl)
 have hE:kI q ((s.data.toList.take en).drop (i+1))=XV D:=by
  rw[hD,oH hi tl];have h5: ¬(s[i+1]=92∨s[i+1]=q):=by rintro(h|h)<;>first|exact n1 h|exact n5 h
  unfold kI dI;simp only[hp,h5,n2,n3,n4,iw,lk];cases fh (s[i+1]::(s.data.toList.take en).drop (i+1+1)) 3 8 with
  |none=>rfl
  |some v=>by_cases h:v≤255<;>simp[h,XV]
 have abg: ∀v,D=some v→v<512:=fun v h=>by
  have:=si (by omega) (hD.symm.trans h);simpa using this
 have hl:AT s[i+1]= -1:=by rw[AT,hp];rfl
 have e1:((s[i+1].toNat:Int)==(q.toNat:Int))=false:=bN.2 sU;have e2:((s[i+1].toNat:Int)==92)=false:=bW 92 n1;have e3:((s[i+1].toNat:Int)==120)=false:=bW 120 n2;have e4:((s[i+1].toNat:Int)==117)=false:=bW 117 n3;have e5:((s[i+1].toNat:Int)==85)=false:=bW 85 n4;obtain⟨R,hR⟩: ∃R,R=kI q ((s.data.toList.take en).drop (i+1)):=⟨_,rfl⟩;rw[←hR]at hE ⊢
 have HN:=ae zQ;clear zQ hD hR bW n1 n2 n3 n4 n5 hn hp sU;cases D with
 |none=>
  simp only[XV]at hE;have HE:=ae hE;clear hE abg;go_enter func132,ntmps132;go_wp2_with fail;refine(ia _ _).mono ?_;rintro e w1 ⟨rfl,rfl⟩;rw[hl];go_wp2_with fail;refine(HN.out _).mono ?_;rintro e w1 ⟨rfl,rfl⟩;rw[zR];go_wp2_with fail;go_ret2;exact kZ HE.out (aU _ _)
 |some v=>
  have hv5:=abg v rfl;simp only[XV]at hE;clear abg;by_cases hv:v≤255
  ·rw[az hv]at hE;obtain⟨x,hx⟩: ∃x,x=UInt8.ofNat v:=⟨_,rfl⟩;have hxv:(v:Int)=(x.toNat:Int):=by rw[hx,lz (by omega)]
   rw[←hx]at hE;have HE:=ae hE;have LN:=Bp w (v:Int) x hxv;have HB:=ae ((aU w.heap.size w).alloc (aS _) (.cells #[.int .u8 (v:Int)] 5));have Pr:(v:Int)≤255:=by omega
   clear hE hx hxv hv5 hv;go_enter func132,ntmps132;go_wp2_with fail;refine(ia _ _).mono ?_;rintro e w1 ⟨rfl,rfl⟩;rw[hl];go_wp2_with fail;refine(HN.out _).mono ?_;rintro e w1 ⟨rfl,rfl⟩;rw[zR];go_wp2_with fail;go_ret2;exact j8 HE.out HB.out
  ·rw[ah hv]at hE;have HE:=ae hE;have Pr:(255:Int)<(v:Int):=by omega
   clear hE hv;go_enter func132,ntmps132;go_wp2_with fail;refine(ia _ _).mono ?_;rintro e w1 ⟨rfl,rfl⟩;rw[hl];go_wp2_with fail;refine(HN.out _).mono ?_;rintro e w1 ⟨rfl,rfl⟩;rw[zR];go_wp2_with fail;go_ret2;exact kZ HE.out (aU _ _)
theorem Nk (s:ByteArray) (i en:Nat) (q:UInt8) (w:World) (hs:s.size≤281474976710656) (tl:en≤s.size) (hi:i<en) (hq:q=34∨q=39):
  Calls prog 132 #[.string s,.int .i64 (i:Int),.int .i64 (en:Int),.int .u8 (q.toNat:Int)] w (nV w (kI q ((s.data.toList.take en).drop (i+1)))):=by
 by_cases h:i+1<en
 ·have hin:i+1<s.size:=by omega
  by_cases h1:s[i+1]=q∨s[i+1]=92
  ·exact Ad s i en q w hs tl h hq h1
  ·have D4:s[i+1]≠q:=fun e=>h1 (.inl e)
   have tS:s[i+1]≠92:=fun e=>h1 (.inr e)
   have sU:((s[i+1]).toNat:Int)≠(q.toNat:Int):=fun e=>D4 (A4.1 (by omega))
   cases hp:eB s[i+1]
   ·by_cases h2:s[i+1]=120
    ·exact G1 s i en q w hs tl h hq h2
    ·by_cases h3:s[i+1]=117∨s[i+1]=85
     ·exact G2 s i en q w hs tl h hq h3
     ·refine Da s i en q w hs tl h sU ?_ hp;intro t ht;simp only[gL,ll,iX]at ht;rcases ht with rfl|rfl|rfl|rfl
      ·exact tS
      ·exact h2
      ·exact fun e=>h3 (.inl e)
      ·exact fun e=>h3 (.inr e)
   ·refine yb s i en q w hs tl h sU ?_ hp;exact fun e=>tS (cJ (n:=92) (by omega) (by omega))
 ·exact C9 s i en q w hs tl hi (by omega)
theorem zu (s:ByteArray) (x y:Int) (i en:Nat) (hx:x=(i:Int)) (hy:y=(en:Int)) (q:UInt8) (w:World) (hs:s.size≤281474976710656) (tl:en≤s.size) (hi:i<en) (hq:q=34∨q=39):
  Calls prog 132 #[.string s,.int .i64 x,.int .i64 y,.int .u8 (q.toNat:Int)] w (nV w (kI q ((s.data.toList.take en).drop (i+1)))):=by
 subst hx hy;exact Nk s i en q w hs tl hi hq
theorem Q5 {xs:List Value} (h:w.ownsRow base e size v n xs): ∃ao c',v= .slice ao n c':=by
 rcases h.2 with⟨rfl,rfl⟩|⟨g,cap,cur,rfl,_⟩
 ·exact⟨_,_,rfl⟩
 ·exact⟨_,_,rfl⟩
theorem Km (l:List UInt8) (m:Nat):(inside l).drop m=(l.take (l.length-1)).drop (m+1):=by
 have h:(l.take (l.length-1)).drop 1=(l.drop 1).take (l.length-2):=by rw[List.drop_take,show l.length-1-1=l.length-2 by omega]
 rw[A8 m 1,←yz,h,inside]
theorem Q6 (h:k<s.size-2):au (inside s.data.toList) k=s[k+1]'(by omega):=by
 rw[inside,af,au,lf,List.getElem?_take_of_lt h,List.getElem?_drop,A8 1 k,lJ (by rw[af];omega)];exact gl _ _ _
theorem Q7 (h:dI q l=none):kI q l=([],0):=by rw[kI,h]
theorem Q8 {b:List UInt8} (h:dI q l=some (b,n)):kI q l=(b,n+1):=by rw[kI,h]
theorem Ae (s:ByteArray) (w:World) (hs:s.size≤281474976710656) (hv:valid s.data.toList=false):
  Calls prog 115 #[.string s] w (ku w (4,[])):=by
 go_enter func115,ntmps115;go_wp2_with fail;refine(j7 s _ (by omega)).mono ?_;rintro e w1 ⟨rfl,hb⟩;rw[hv];go_wp2_with fail;go_ret2;exact⟨rfl,hb⟩
theorem yc (s:ByteArray) (w:World) (hs:s.size≤281474976710656) (hv:valid s.data.toList=true) (hl:bC s.data.toList 0≠some s.data.toList.length):
  Calls prog 115 #[.string s] w (ku w (10,[])):=by
 go_enter func115,ntmps115;go_wp2_with fail;refine(j7 s _ (by omega)).mono ?_;rintro e w1 ⟨rfl,hb⟩;rw[hv];rw[af]at hl;have HB:=ae hb;clear hb hv;cases hE:bC s.data.toList 0 with
 |none=>
  have HE:=ae hE;clear hE hl;go_wp2_with fail;refine(kY s 0 _ (by omega)).mono ?_;rintro e w2 ⟨rfl,rfl⟩;rw[HE.out];simp only[jN,nS];go_wp2_with fail;go_ret2;exact⟨rfl,HB⟩
 |some n=>
  rw[hE]at hl;have bW:((n:Int) != (s.size:Int))=true:=by
   rw[jo];intro e;exact hl (by rw[show n=s.size by omega])
  have HE:=ae hE;clear hE hl;go_wp2_with fail;refine(kY s 0 _ (by omega)).mono ?_;rintro e w2 ⟨rfl,rfl⟩;rw[HE.out];simp only[jN,nS];go_wp2_with fail;go_ret2;exact⟨rfl,HB⟩
theorem Af (s:ByteArray) (w:World) (hs:s.size≤281474976710) (hv:valid s.data.toList=true) (hl:bC s.data.toList 0=some s.data.toList.length) (h0:0<s.size) (hq:s[0].toNat=96):
  Calls prog 115 #[.string s] w (ku w (0,inside s.data.toList)):=by
 have h2:=(iR hl).1;rw[af]at hl h2;have hw:IntKind.i64.wrap ((s.size:Int)-1)=(s.size:Int)-1:=by rw[ou];omega
 have uQ:((s.size:Int) != (s.size:Int))=false:=by simp
 go_enter func115,ntmps115;go_wp2_with fail;refine(j7 s _ (by omega)).mono ?_;rintro e w1 ⟨rfl,hb⟩;rw[hv];have HB:=ae hb;have HL:=ae hl;have HQ:=ae hq;clear hb hv hl hq;go_wp2_with fail;refine(kY s 0 _ (by omega)).mono ?_;rintro e w2 ⟨rfl,rfl⟩;rw[HL.out];simp only[jN,nS];have ab1:((s[0].toNat:Int)==96)=true:=by rw[HQ.out];rfl
 go_wp2_with fail;go_ret2;exact⟨by rw[←xG,mk_data];rfl,HB⟩
theorem Ag (s:ByteArray) (w:World) (hs:s.size≤281474976710) (hv:valid s.data.toList=true) (hl:bC s.data.toList 0=some s.data.toList.length) (h0:0<s.size) (hq:s[0]=34∨s[0]=39) (T:Option (List UInt8)) (hT:ot s[0] (inside s.data.toList) 0 []=T):
  Calls prog 115 #[.string s] w (ku w (xv T)):=by
 have h2:=(iR hl).1;have R9:=uu h2;rw[af]at hl h2 R9;have hw:IntKind.i64.wrap ((s.size:Int)-1)=(s.size:Int)-1:=by rw[ou];omega
 have uQ:((s.size:Int) != (s.size:Int))=false:=by simp
 have ab1:((s[0].toNat:Int)==96)=false:=by rcases hq with h|h<;>(rw[h];rfl)
 obtain⟨i0,s9,Dg,de,ej⟩:=lF iK;have HL:=ae hl;have HQ:=ae hq;have HT:=ae hT;have HI:=ae R9;have HID:=ae (fun m=>Km s.data.toList m);obtain⟨I,hI⟩: ∃I,I=inside s.data.toList:=⟨_,rfl⟩;have Hx:Hid (∀k (h:k<s.size-2),au I k=s[k+1]'(by omega)):=ae (fun k h=>by rw[hI];exact Q6 h);rw[←hI]at HT HI HID;clear hl hq hT R9 hI;go_enter func115,ntmps115;go_wp2_with fail;refine(j7 s _ (by omega)).mono ?_;rintro e w1 ⟨rfl,hb⟩;rw[hv];clear hv;go_wp2_with fail;refine(kY s 0 _ (by omega)).mono ?_;rintro e w2 ⟨rfl,rfl⟩;rw[HL.out];simp only[jN,nS];go_wp2_with fail;go_loopw [7,8] (fun v x wr=> ∃(k:Nat) (bs:List UInt8),k≤s.size-2∧bs.length≤k∧x= .int .i64 ((k:Int)+1)∧wr.ownsRow w.heap.size 5 1 v bs.length (cellsOf bs)∧Below w.heap.size w wr∧Hid (ot s[0] I k bs=T)) (fun _ x _=>s.size-(intOf x).toNat)
 case atStart=>exact⟨0,[],aV _,aS _,rfl,sZ _ _ _ _,hb,HT.out⟩
 case round=>
  obtain⟨k,bs,hk,hbs,rfl,aP,bO,hT⟩:=hrel;clear HT hb;by_cases aA:k<s.size-2
  ·have Xb:k<I.length:=by rw[HI.out];exact aA
   have cI:au I k=s[k+1]:=Hx.out k aA;have p1:((k:Int)+1<(s.size:Int)-1)=True:=aD (by omega);cases hc:((s[k+1].toNat:Int) != 92)
   ·have qD:au I k=92:=by rw[cI];exact om (n:=92) (by omega) rfl (by simpa [bne]using hc)
    have oy:(s.data.toList.take (s.size-1)).drop (k+1+1)=I.drop (k+1):=by rw[HID.out,af]
    cases he:dI s[0] (I.drop (k+1))with
    |none=>
     have Fz:=(EL (bs:=bs) Xb qD he).symm.trans hT.out;have Ln:=Q7 he;rw[←oy]at Ln;have HE:=ae Ln;have Sd:=ae Fz;clear qD oy he Fz Ln cI hT Xb;go_wp2_with fail;refine(zu s _ _ (k+1) (s.size-1) (by omega) (by omega) s[0] _ (by omega) (by omega) (by omega) HQ.out).mono ?_;rintro e w4 ⟨rfl,fe⟩;rw[HE.out];have HB:=ae (bO.trans (fe.mono bO.size));clear fe aP bO;go_wp2_with fail;go_ret2;exact⟨by rw[←Sd.out];rfl,HB.out⟩
    |some p=>
     obtain⟨b,n⟩:=p;have hn:=vY he;have Fz:=(I4 (bs:=bs) Xb qD he).trans hT.out;have Ln:=Q8 he;rw[←oy]at Ln;rw[nP,HI.out]at hn;obtain⟨AE,xd,hn3⟩:=hn;have HE:=ae Ln;have Sd:=ae Fz;clear qD oy he Fz Ln cI hT Xb;go_wp2_with fail;refine(zu s _ _ (k+1) (s.size-1) (by omega) (by omega) s[0] _ (by omega) (by omega) (by omega) HQ.out).mono ?_;rintro e w4 ⟨rfl,fe⟩;rw[HE.out];have arq:(((n+1:Nat):Int)==0)=false:=by rw[bN];omega
     have HB:=ae (bO.trans (fe.mono bO.size));have HO:=ae (oI aP fe);have iI:(⟨b.toArray⟩:ByteArray).size=b.length:=by simp[ByteArray.size]
     clear fe aP bO;obtain⟨B,hB⟩: ∃B:ByteArray,B=⟨b.toArray⟩:=⟨_,rfl⟩;have hBc:Lib.strCells B=cellsOf b:=by rw[hB];simp[cellsOf,Lib.strCells]
     simp only;rw[←hB]at iI ⊢
     have HBc:=ae hBc;clear hB hBc;obtain⟨ao,c',rfl⟩:=Q5 HO.out;go_wp2_with (at_builtin;refine Lib.wpList_append_own_string _ rfl _ _ 147 9 rfl w.heap.size 5 i0 underlying147 underlying9 s9 Dg de ej _ _ _ rfl HO.out B rfl (by unfold maxLen;omega) (by omega) HB.out.size ?_);intro v3 w3 vG AN _;have fZ:=ae (HB.out.grown AN HB.out.size (fun g hg=>(HO.out.lt g hg).1));have qL:=ae vG;clear vG AN;go_wp2_with fail;exact⟨⟨k+1+n,bs++b,by omega,by rw[iF];omega,by apply IM;omega,by rw[fP,iF,←HBc.out];exact qL.out,fZ.out,Sd.out⟩,by simp[intOf];omega⟩
   ·have qD:au I k≠92:=by rw[cI];exact pd (n:=92) (by omega) rfl (by simpa [bne]using hc)
    have Fz:=(Cd (q:=s[0]) (bs:=bs) Xb qD).trans hT.out;rw[cI]at Fz;have Sd:=ae Fz;clear qD cI Fz hT;go_wp2_with (at_builtin;refine ib rfl (.tmp 42) (.tmp 46) 147 rfl w.heap.size 5 (.int .u8 0) 1 1 iK underlying147 rfl (by omega) _ bs.length _ rfl aP [.int .u8 (s[k+1].toNat:Int)] rfl rfl (zL rfl) (by unfold maxLen;omega) (by omega) bO.size ?_);intro v' w4 ho hg;have HB:=ae (bO.grown hg bO.size (fun g uU=>(aP.lt g uU).1));have HO:=ae ho;clear ho hg aP bO;go_wp2_with fail;exact⟨⟨k+1,bs++[s[k+1]],by omega,by simp;omega,by go_num,by rw[fP,iF];exact HO.out,HB.out,Sd.out⟩,by simp[intOf];omega⟩
  ·have p1:((k:Int)+1<(s.size:Int)-1)=False:=bT (by omega);have Se:=(I3 (q:=s[0]) (bs:=bs) (k:=k) (by rw[HI.out];omega)).symm.trans hT.out;have HTe:=ae Se;have II:=dT (P:=prog) aP 147 9 underlying147 underlying5 underlying9;have iI:(⟨bs.toArray⟩:ByteArray).size≤281474976710656:=by simp[ByteArray.size];omega
   have HS:=ae iI;clear Se hT iI;go_wp2_with fail;refine(j7 ⟨bs.toArray⟩ _ HS.out).mono ?_;rintro e w4 ⟨rfl,fe⟩;have IL:=oI aP fe;have abI:=dT (P:=prog) IL 147 9 underlying147 underlying5 underlying9;have HB:=ae (bO.trans (fe.mono bO.size));clear aP IL bO fe II;rw[show ((⟨bs.toArray⟩:ByteArray).data.toList)=bs from by simp];cases Xc:valid bs
   ·have HV:=ae Xc;clear Xc;go_wp2_with fail;go_ret2;exact⟨by rw[←HTe.out,xv];simp[HV.out],HB.out⟩
   ·have HV:=ae Xc;clear Xc;go_wp2_with fail;go_ret2;exact⟨by rw[←HTe.out,xv];simp[HV.out],HB.out⟩
theorem Kn (s:ByteArray) (w:World) (hs:s.size≤281474976710):
  Calls prog 115 #[.string s] w (ku w (lM s.data.toList)):=by
 unfold lM;cases hv:valid s.data.toList
 ·rw[az rfl];exact Ae s w (by omega) hv
 ·rw[ah (by simp)];by_cases hl:bC s.data.toList 0=some s.data.toList.length
  ·rw[ah (by simpa using hl)];have h2:=(iR hl).1;have h0:0<s.size:=by rw[af]at h2;omega
   have cI:=ay h0;have hqq:=(iR hl).2;rw[cI]at hqq ⊢
   by_cases hq:s[0]=96
   ·rw[az hq];exact Af s w hs hv hl h0 (by rw[hq];rfl)
   ·rw[ah hq];have hq':s[0]=34∨s[0]=39:=by
     simp only[dC,tu,cx]at hqq;rcases hqq with(h|h)|h
     ·exact .inl h
     ·exact .inr h
     ·exact absurd h hq
    have hT:ot s[0] (inside s.data.toList) 0 []=kN s[0] s.data.toList.length (inside s.data.toList):=by
     rw[ot,mT,kc s[0] (inside s.data.toList).length s.data.toList.length _ (aS _) (by rw[uu h2];omega)];cases kN s[0] s.data.toList.length (inside s.data.toList)<;>simp
    exact Ag s w hs hv hl h0 hq' _ hT
  ·rw[az hl];exact yc s w (by omega) hv hl
def bD (w:World) (p:Prop) (e:Ending) (w':World):Prop:= ∃b:Bool,e= .returned (.bool b)∧(b=true↔p)∧Below w.heap.size w w'
theorem bD.yes {p:Prop} (h:p) (hb:Below w.heap.size w w'):bD w p (.returned (.bool true)) w':=⟨true,rfl,by simp[h],hb⟩
theorem bD.no {p:Prop} (h: ¬p) (hb:Below w.heap.size w w'):bD w p (.returned (.bool false)) w':=⟨false,rfl,by simp[h],hb⟩
theorem dY {x:ByteArray} :(x.toList==y.toList)=true↔x=y:=by
 rw[cx,nM,nM];constructor
 ·intro e;rw[←mk_data x,←mk_data y,e]
 ·rintro rfl;rfl
theorem xQ (h1:cO b1 w v1 xs) (h2:cO b2 w v2 ys) (hn:xs.length≤1099511627776) (hm:ys.length≤1099511627776):
  Calls prog 69 #[v1,v2] w (bD w (xs=ys)):=by
 obtain⟨a1,c1,rfl,jK⟩:=h1;obtain⟨a2,c2,rfl,ko⟩:=h2;have H1:=ae jK;have H2:=ae ko;clear jK ko;by_cases hl:xs.length=ys.length
 ·have HL:=ae hl;rw[←hl]at hm ⊢
  clear hl;go_enter func69,ntmps69;go_wp2_with fail;go_loopw [13] (fun t13 wr=> ∃j q:Nat,Hid (j≤xs.length)∧t13= .int .i64 (j:Int)∧wr=w.drewN q∧Hid (∀i (h:i<j) (hx:i<xs.length) (hy:i<ys.length),xs[i]=ys[i])) (fun t13 _=>xs.length-(intOf t13).toNat)
  case atStart=>exact⟨0,0,ae (aV _),rfl,rfl,ae fun i h=>absurd h (by omega)⟩
  case round=>
   obtain⟨j,q,hj,rfl,rfl,fH⟩:=hrel;by_cases aA:j<xs.length
   ·have p1:((j:Int)<(xs.length:Int))=True:=aD (by omega);have jR:j<ys.length:=by rw[←HL.out];exact aA
    obtain⟨g1,o1,rfl,_,_,x1⟩:=H1 j aA;obtain⟨g2,o2,rfl,_,_,x2⟩:=H2 j jR;generalize hX:xs[j]=x at x1;generalize hY:ys[j]=y at x2;have HX:=ae (show xs[j]=x from hX);have HY:=ae hY;clear hX hY;by_cases he:x=y
    ·have e1:(x.toList==y.toList)=true:=dY.2 he;have HN:Hid (∀i (h:i<j+1) (hx:i<xs.length) (hy:i<ys.length),xs[i]=ys[i]):=ae fun i h hx hy=>by
      by_cases e:i=j
      ·subst e;rw[HX.out,HY.out,he]
      ·exact fH i (by omega) hx hy
     clear he;go_wp2_with fail;go_quiet (fail);go_wp2_with fail;exact⟨⟨j+1,q+nq,ae aA,rfl,rfl,HN⟩,by simp[intOf];omega⟩
    ·have e1:(x.toList==y.toList)=false:=by rw[←yv,dY];exact he
     have HN:Hid (¬xs=ys):=ae fun e=>he (by rw[←HX.out,←HY.out];subst e;rfl)
     clear he;go_wp2_with fail;go_quiet (fail);go_wp2_with fail;go_ret;exact bD.no HN (by rw[jP];exact bZ (aU _ _) _)
   ·have p1:((j:Int)<(xs.length:Int))=False:=bT (by omega);have HN:=ae (Eh HL fun i hx hy=>fH i (by omega) hx hy);go_wp2_with fail;go_ret;exact bD.yes HN (bZ (aU _ _) _)
 ·have p1:((xs.length:Int)==(ys.length:Int))=false:=by rw[bN];omega
  have HN:Hid (¬xs=ys):=ae fun e=>hl (by rw[e])
  clear hl;go_enter func69,ntmps69;go_wp2_with fail;go_ret;exact bD.no HN (aU _ _)
theorem Q9 {xs ys:List PM} (h1:fV b1 w v1 xs) (h2:fV b2 w v2 ys) (hn:xs.length≤1099511627776) (hm:ys.length≤1099511627776):
  Calls prog 68 #[v1,v2] w (bD w (xs=ys)):=by
 obtain⟨a1,c1,rfl,jK⟩:=h1;obtain⟨a2,c2,rfl,ko⟩:=h2;have H1:=ae jK;have H2:=ae ko;clear jK ko;by_cases hl:xs.length=ys.length
 ·have HL:=ae hl;rw[←hl]at hm ⊢
  clear hl;go_enter func68,ntmps68;go_wp2_with fail;go_loopw [13] (fun t13 wr=> ∃j q:Nat,Hid (j≤xs.length)∧t13= .int .i64 (j:Int)∧wr=w.drewN q∧Hid (∀i (h:i<j) (hx:i<xs.length) (hy:i<ys.length),xs[i]=ys[i])) (fun t13 _=>xs.length-(intOf t13).toNat)
  case atStart=>exact⟨0,0,ae (aV _),rfl,rfl,ae fun i h=>absurd h (by omega)⟩
  case round=>
   obtain⟨j,q,hj,rfl,rfl,fH⟩:=hrel;by_cases aA:j<xs.length
   ·have p1:((j:Int)<(xs.length:Int))=True:=aD (by omega);have jR:j<ys.length:=by rw[←HL.out];exact aA
    obtain⟨g1,o1,rfl,_,_,x1,x1b,x1c⟩:=H1 j aA;obtain⟨g2,o2,rfl,_,_,x2,x2b,x2c⟩:=H2 j jR;generalize hX:xs[j]=x at x1 x1b x1c;generalize hY:ys[j]=y at x2 x2b x2c;have HX:=ae (show xs[j]=x from hX);have HY:=ae hY;clear hX hY;by_cases he:x=y
    ·have HN:Hid (∀i (h:i<j+1) (hx:i<xs.length) (hy:i<ys.length),xs[i]=ys[i]):=ae fun i h hx hy=>by
      by_cases e:i=j
      ·subst e;rw[HX.out,HY.out,he]
      ·exact fH i (by omega) hx hy
     subst he;clear HX HY;obtain⟨n1,WC,v1⟩:=x;simp only at x1 x1b x1c x2 x2b x2c;go_wp2_with fail;go_quiet (fail);go_wp2_with fail;exact⟨⟨j+1,q+nq,ae aA,rfl,rfl,HN⟩,by simp[intOf];omega⟩
    ·have HN:Hid (¬xs=ys):=ae fun e=>he (by rw[←HX.out,←HY.out];subst e;rfl)
     clear HX HY;obtain⟨n1,WC,v1⟩:=x;obtain⟨n2,p2',v2⟩:=y;simp only at x1 x1b x1c x2 x2b x2c;by_cases h1:n1=n2
     ·subst h1;by_cases h2:WC=p2'
      ·subst h2;have e1:(v1.toList=v2.toList)=False:=bT fun e=>he (by rw[dY.1 (cx.2 e)])
       clear he;go_wp2_with fail;go_quiet (fail);go_wp2_with fail;go_ret;exact bD.no HN (by rw[jP];exact bZ (aU _ _) _)
      ·have e1:(WC=p2')=False:=bT h2;clear he h2;go_wp2_with fail;go_quiet (fail);go_wp2_with fail;go_ret;exact bD.no HN (by rw[jP];exact bZ (aU _ _) _)
     ·have e1:(n1.toList=n2.toList)=False:=bT fun e=>h1 (dY.1 (cx.2 e))
      clear he h1;go_wp2_with fail;go_quiet (fail);go_wp2_with fail;go_ret;exact bD.no HN (by rw[jP];exact bZ (aU _ _) _)
   ·have p1:((j:Int)<(xs.length:Int))=False:=bT (by omega);have HN:=ae (Eh HL fun i hx hy=>fH i (by omega) hx hy);go_wp2_with fail;go_ret;exact bD.yes HN (bZ (aU _ _) _)
 ·have p1:((xs.length:Int)==(ys.length:Int))=false:=by rw[bN];omega
  have HN:Hid (¬xs=ys):=ae fun e=>hl (by rw[e])
  clear hl;go_enter func68,ntmps68;go_wp2_with fail;go_ret;exact bD.no HN (aU _ _)
theorem nY (h1:cO b1 w v1 xs) (h2:cO b2 w v2 ys) (hn:xs.length≤1099511627776) (hm:ys.length≤1099511627776):
  Calls prog 38 #[v1,v2] w (bD w (xs=ys)):=by
 obtain⟨a1,c1,rfl,jK⟩:=h1;obtain⟨a2,c2,rfl,ko⟩:=h2;have H1:=ae jK;have H2:=ae ko;clear jK ko;by_cases hl:xs.length=ys.length
 ·have HL:=ae hl;rw[←hl]at hm ⊢
  clear hl;go_enter func38,ntmps38;go_wp2_with fail;go_loopw [5] (fun t13 wr=> ∃j q:Nat,Hid (j≤xs.length)∧t13= .int .i64 (j:Int)∧wr=w.drewN q∧Hid (∀i (h:i<j) (hx:i<xs.length) (hy:i<ys.length),xs[i]=ys[i])) (fun t13 _=>xs.length-(intOf t13).toNat)
  case atStart=>exact⟨0,0,ae (aV _),rfl,rfl,ae fun i h=>absurd h (by omega)⟩
  case round=>
   obtain⟨j,q,hj,rfl,rfl,fH⟩:=hrel;by_cases aA:j<xs.length
   ·have p1:((j:Int)<(xs.length:Int))=True:=aD (by omega);have jR:j<ys.length:=by rw[←HL.out];exact aA
    obtain⟨g1,o1,rfl,_,_,x1⟩:=H1 j aA;obtain⟨g2,o2,rfl,_,_,x2⟩:=H2 j jR;generalize hX:xs[j]=x at x1;generalize hY:ys[j]=y at x2;have HX:=ae (show xs[j]=x from hX);have HY:=ae hY;clear hX hY;by_cases he:x=y
    ·have e1:(x.toList==y.toList)=true:=dY.2 he;have HN:Hid (∀i (h:i<j+1) (hx:i<xs.length) (hy:i<ys.length),xs[i]=ys[i]):=ae fun i h hx hy=>by
      by_cases e:i=j
      ·subst e;rw[HX.out,HY.out,he]
      ·exact fH i (by omega) hx hy
     clear he;go_wp2_with fail;go_quiet (fail);go_wp2_with fail;exact⟨⟨j+1,q+nq,ae aA,rfl,rfl,HN⟩,by simp[intOf];omega⟩
    ·have e1:(x.toList==y.toList)=false:=by rw[←yv,dY];exact he
     have HN:Hid (¬xs=ys):=ae fun e=>he (by rw[←HX.out,←HY.out];subst e;rfl)
     clear he;go_wp2_with fail;go_quiet (fail);go_wp2_with fail;go_ret;exact bD.no HN (by rw[jP];exact bZ (aU _ _) _)
   ·have p1:((j:Int)<(xs.length:Int))=False:=bT (by omega);have HN:=ae (Eh HL fun i hx hy=>fH i (by omega) hx hy);go_wp2_with fail;go_ret;exact bD.yes HN (bZ (aU _ _) _)
 ·have p1:((xs.length:Int)==(ys.length:Int))=false:=by rw[bN];omega
  have HN:Hid (¬xs=ys):=ae fun e=>hl (by rw[e])
  clear hl;go_enter func38,ntmps38;go_wp2_with fail;go_ret;exact bD.no HN (aU _ _)
theorem G3 {xs ys:List PM} (h1:fV b1 w v1 xs) (h2:fV b2 w v2 ys) (hn:xs.length≤1099511627776) (hm:ys.length≤1099511627776):
  Calls prog 37 #[v1,v2] w (bD w (xs=ys)):=by
 obtain⟨a1,c1,rfl,jK⟩:=h1;obtain⟨a2,c2,rfl,ko⟩:=h2;have H1:=ae jK;have H2:=ae ko;clear jK ko;by_cases hl:xs.length=ys.length
 ·have HL:=ae hl;rw[←hl]at hm ⊢
  clear hl;go_enter func37,ntmps37;go_wp2_with fail;go_loopw [5] (fun t13 wr=> ∃j q:Nat,Hid (j≤xs.length)∧t13= .int .i64 (j:Int)∧wr=w.drewN q∧Hid (∀i (h:i<j) (hx:i<xs.length) (hy:i<ys.length),xs[i]=ys[i])) (fun t13 _=>xs.length-(intOf t13).toNat)
  case atStart=>exact⟨0,0,ae (aV _),rfl,rfl,ae fun i h=>absurd h (by omega)⟩
  case round=>
   obtain⟨j,q,hj,rfl,rfl,fH⟩:=hrel;by_cases aA:j<xs.length
   ·have p1:((j:Int)<(xs.length:Int))=True:=aD (by omega);have jR:j<ys.length:=by rw[←HL.out];exact aA
    obtain⟨g1,o1,rfl,_,_,x1,x1b,x1c⟩:=H1 j aA;obtain⟨g2,o2,rfl,_,_,x2,x2b,x2c⟩:=H2 j jR;generalize hX:xs[j]=x at x1 x1b x1c;generalize hY:ys[j]=y at x2 x2b x2c;have HX:=ae (show xs[j]=x from hX);have HY:=ae hY;clear hX hY;by_cases he:x=y
    ·have HN:Hid (∀i (h:i<j+1) (hx:i<xs.length) (hy:i<ys.length),xs[i]=ys[i]):=ae fun i h hx hy=>by
      by_cases e:i=j
      ·subst e;rw[HX.out,HY.out,he]
      ·exact fH i (by omega) hx hy
     subst he;clear HX HY;obtain⟨n1,WC,v1⟩:=x;simp only at x1 x1b x1c x2 x2b x2c;go_wp2_with fail;go_quiet (fail);go_wp2_with fail;exact⟨⟨j+1,q+nq,ae aA,rfl,rfl,HN⟩,by simp[intOf];omega⟩
    ·have HN:Hid (¬xs=ys):=ae fun e=>he (by rw[←HX.out,←HY.out];subst e;rfl)
     clear HX HY;obtain⟨n1,WC,v1⟩:=x;obtain⟨n2,p2',v2⟩:=y;simp only at x1 x1b x1c x2 x2b x2c;by_cases h1:n1=n2
     ·subst h1;by_cases h2:WC=p2'
      ·subst h2;have e1:(v1.toList=v2.toList)=False:=bT fun e=>he (by rw[dY.1 (cx.2 e)])
       clear he;go_wp2_with fail;go_quiet (fail);go_wp2_with fail;go_ret;exact bD.no HN (by rw[jP];exact bZ (aU _ _) _)
      ·have e1:(WC=p2')=False:=bT h2;clear he h2;go_wp2_with fail;go_quiet (fail);go_wp2_with fail;go_ret;exact bD.no HN (by rw[jP];exact bZ (aU _ _) _)
     ·have e1:(n1.toList=n2.toList)=False:=bT fun e=>h1 (dY.1 (cx.2 e))
      clear he h1;go_wp2_with fail;go_quiet (fail);go_wp2_with fail;go_ret;exact bD.no HN (by rw[jP];exact bZ (aU _ _) _)
   ·have p1:((j:Int)<(xs.length:Int))=False:=bT (by omega);have HN:=ae (Eh HL fun i hx hy=>fH i (by omega) hx hy);go_wp2_with fail;go_ret;exact bD.yes HN (bZ (aU _ _) _)
 ·have p1:((xs.length:Int)==(ys.length:Int))=false:=by rw[bN];omega
  have HN:Hid (¬xs=ys):=ae fun e=>hl (by rw[e])
  clear hl;go_enter func37,ntmps37;go_wp2_with fail;go_ret;exact bD.no HN (aU _ _)
