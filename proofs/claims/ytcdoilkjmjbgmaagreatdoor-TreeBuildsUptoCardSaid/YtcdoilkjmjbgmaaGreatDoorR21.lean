import Derived.Test.YtcdoilkjmjbgmaaGreatDoorR03
/- Part of the proof of YtcdoilkjmjbgmaaGreatDoorCardR: RcB RcC RaB RaC RaD RaE RaF RaG TrS TsB. -/
set_option maxRecDepth 100000
set_option maxHeartbeats 4000000
set_option linter.unusedVariables false
set_option linter.unusedSimpArgs false
namespace Go.Proofs.YtcdoilkjmjbgmaaGreatDoor
open Go.RowKit
open Tryz
variable {u b j n sum rs a x k m i en base size b1 b2:Nat} {l:List UInt8} {w w':World} {c q:UInt8} {s y:ByteArray} {e:TypeId} {v v1 v2:Value} {xs ys:List ByteArray}
theorem Vk (i j:Nat):PI (7,i) j= .tuple #[.int .i64 0,.int .i64 0,.int .i64 0]:=rfl
theorem J6 (h:u≠7):PI (u,b) j= .tuple #[.int .i64 ((b-j:Nat):Int),.int .i64 (dm u:Int),.int .i64 ((u+1:Nat):Int)]:=by
 unfold PI;exact af h
theorem FC (l:List UInt8) (i:Nat) (h:(aO l i).1≠7):i<(aO l i).2:=by
 unfold aO at h ⊢
 split
 ·rename_i h1;rw[au h1]at h;exact absurd rfl h
 ·rename_i h1;rw[af h1]at h;split
  ·simp
  ·rename_i h2;rw[af h2]at h;split
   ·rename_i h3;rw[au h3]at h;exact absurd rfl h
   ·simp
theorem uY (s:ByteArray) (w:World) (hs:s.size≤281474976710656):
  Calls prog 110 #[.string s] w fun e w'=>e= .returned (.int .i64 (aY s.data.toList:Nat))∧w=w':=by
 obtain⟨V,hV⟩: ∃V,V=aY s.data.toList:=⟨_,rfl⟩;rw[←hV];have HV:=aa hV;clear hV;go_enter func110,ntmps110;go_wp2_with fail;go_loop [3,4] (fun v x=> ∃f fin next sum:Nat,fin≤s.size∧next≤7∧8≤f+next∧v= .int .i64 fin∧x= .int .i64 next∧Hid ((En f s.data.toList fin next sum).1=V)) (fun v _=>s.size-(intOf v).toNat)
 case atStart=>exact⟨8,0,0,0,dQ _,by omega,by omega,by go_num,by go_num,aa HV.symm⟩
 case round=>
  obtain⟨f,fin,next,sum,mA,ZZ,hf,rfl,rfl,hM⟩:=hrel;obtain⟨f,rfl⟩: ∃g,f=g+1:=⟨f-1,by omega⟩;by_cases ax:fin<s.size
  ·go_wp2_with fail;refine(OX s fin _ hs (by omega)).mono ?_;rintro e w1 ⟨rfl,rfl⟩;have rl:=aX digit s.data.toList fin;have pG:=bL digit s.data.toList fin (by rw[ab];exact mA);rw[ab]at pG;obtain⟨at',cL⟩: ∃k,k=ae digit s.data.toList fin:=⟨_,rfl⟩;rw[←cL]at rl pG ⊢
   have HA:=aa cL;clear cL;go_wp2_with fail;refine(Jz s at' _ hs (by omega)).mono ?_;rintro e w2 ⟨rfl,rfl⟩;have hU:=j7 s.data.toList at';have hG:=FC s.data.toList at';rw[ab]at hU;obtain⟨u,behind,hu⟩: ∃u b,(u,b)=aO s.data.toList at':=⟨_,_,rfl⟩;rw[←hu]at hU hG ⊢
   obtain⟨Φ,Sz,Zm⟩:=hU;have HU:=aa hu;clear hu;simp only at Φ Sz Zm hG;by_cases h7:u=7
   ·have hE:=(cz Prod.fst (jH (f:=f) (l:=s.data.toList) (fin:=fin) (next:=next) (sum:=sum) (.inr (.inr (by rw[←HA.out,←HU.out];exact h7))))).symm.trans hM;subst h7;rw[Vk];have HE:=aa hE;clear hE hM;go_wp2_with fail
    all_goals (go_ret;exact⟨aH (by rw[←HE.out]),rfl⟩)
   ·rw[J6 h7];have hG2:=hG h7;have PX:=Sz pG;have Ψ:u≤6:=by omega
    have SR:(((behind-at':Nat):Int)==0)=false:=bN.2 (by omega);have xz:behind-at'≤2814749767106560:=by omega
    clear hG Φ Sz Zm;cases hq:((at':Int)==(fin:Int))
    ·by_cases hr:u<next
     ·have hE:=(cz Prod.fst (jH (f:=f) (l:=s.data.toList) (fin:=fin) (next:=next) (sum:=sum) (.inr (.inl (by rw[←HA.out,←HU.out];exact hr))))).symm.trans hM;have HE:=aa hE;have hrr:((u:Int)+1≤(next:Int))=True:=aA (by omega);clear hE hM hr h7;go_wp2_with fail;go_ret;exact⟨aH (by rw[←HE.out]),rfl⟩
     ·have hg:=(cz Prod.fst (Mi (f:=f) (l:=s.data.toList) (fin:=fin) (next:=next) (sum:=sum) HA.symm HU.symm (by have:=kJ hq;omega) (by omega) h7)).symm.trans hM;have HG:=aa hg;have hrr:((u:Int)+1≤(next:Int))=False:=bU (by omega);clear hg hM;have hm:fin<behind:=by omega
      go_wp2_with fail;exact⟨⟨f,behind,u+1,_,PX,by omega,by omega,by apply Jh;omega,by go_num,HG⟩,by simp[intOf];omega⟩
    ·have hE:=(cz Prod.fst (jH (f:=f) (l:=s.data.toList) (fin:=fin) (next:=next) (sum:=sum) (.inl (by rw[←HA.out];exact Int.ofNat.inj (jx hq))))).symm.trans hM;have HE:=aa hE;clear hE hM h7;go_wp2_with fail;go_ret;exact⟨aH (by rw[←HE.out]),rfl⟩
  ·have hE:=(cz Prod.fst (jH (f:=f) (l:=s.data.toList) (fin:=fin) (next:=next) (sum:=sum) (.inl (bR (by rw[ab];omega))))).symm.trans hM;have HE:=aa hE;clear hE hM;go_wp2_with fail;go_ret;exact⟨aH (by rw[←HE.out]),rfl⟩
theorem Rj (hn:n=sat l) (h:sum=min rs 315360000000001):jF n u sum=min (rs+manyN l (dm u)) 315360000000001:=by
 subst hn;by_cases hb:315360000000000/dm u<sat l
 ·rw[zm hb,manyN,au hb];omega
 ·rw[zn (by omega),manyN,af hb];omega
theorem Vl (l:List UInt8) (u:Nat):manyN l (dm u)≤315360000000001:=by
 unfold manyN;split
 ·exact aS _
 ·have:=Jv (n:=sat l) (u:=u) (by omega);omega
theorem sa {r:Nat×Nat} (h:r=(a,b)) (hb:w=w'):(Ending.returned (.tuple #[.int .i64 (a:Int),.int .i64 (b:Int)])= .returned (.tuple #[.int .i64 (r.1:Nat),.int .i64 (r.2:Nat)]))∧w=w':=by
 subst h;exact⟨rfl,hb⟩
theorem Ds (s:ByteArray) (w:World) (hs:s.size≤64) (h0:0<s.size) (hm:(measure s.data.toList).1=s.size):
  Calls prog 112 #[.string s] w fun e w'=>e= .returned (.tuple #[.int .i64 ((bG s.data.toList).1:Nat),.int .i64 ((bG s.data.toList).2:Nat)])∧w=w':=by
 obtain⟨r,hr⟩: ∃r,r=bG s.data.toList:=⟨_,rfl⟩;have hR:r=if 315360000000000<(measure s.data.toList).2 then(0,31)else((measure s.data.toList).2,0):=by
  rw[hr,bG,af (by rw[ab];omega),af (by rw[hm,ab];omega)]
 rw[←hr];have HR:=aa hR;have Ip:((aY s.data.toList:Int) != (s.size:Int))=false:=by
  rw[I0,aY,hm]
 have HM:=aa hm;clear hr hR hm;obtain⟨XO,XG⟩:=oI h0;go_enter func112,ntmps112;go_wp2_with fail;refine(uY s _ (by omega)).mono ?_;rintro e w1 ⟨rfl,rfl⟩;go_wp2_with fail;clear Ip XO XG;go_loop [4,5] (fun v x=> ∃f fin next sum rs:Nat,fin≤s.size∧next≤7∧8≤f+next∧rs≤next*315360000000001∧v= .int .i64 rs∧x= .int .i64 fin∧Hid (En f s.data.toList fin next sum=measure s.data.toList)∧Hid (sum=min rs 315360000000001)) (fun _ x=>s.size-(intOf x).toNat)
 case atStart=>exact⟨8,0,0,0,0,dQ _,by omega,by omega,by omega,by go_num,by go_num,aa rfl,aa (by omega)⟩
 case round=>
  obtain⟨f,fin,next,sum,rs,mA,ZZ,hf,hrs,rfl,rfl,hM,hS⟩:=hrel;obtain⟨f,rfl⟩: ∃g,f=g+1:=⟨f-1,by omega⟩;have arj:rs≤2207520000000007:=by omega
  by_cases ax:fin<s.size
  ·have hgo: ¬(ae digit s.data.toList fin=fin∨(aO s.data.toList (ae digit s.data.toList fin)).1<next∨(aO s.data.toList (ae digit s.data.toList fin)).1=7):=by
    intro h;have h1:=jH (f:=f) (sum:=sum) h;rw[hM.out]at h1;have h2:=HM.out;rw[h1]at h2;simp only at h2;omega
   have HGO:=aa hgo;clear hgo;go_wp2_with fail;refine(OX s fin _ (by omega) (by omega)).mono ?_;rintro e w1 ⟨rfl,rfl⟩;have rl:=aX digit s.data.toList fin;have pG:=bL digit s.data.toList fin (by rw[ab];exact mA);rw[ab]at pG;obtain⟨at',cL⟩: ∃k,k=ae digit s.data.toList fin:=⟨_,rfl⟩;rw[←cL]at rl pG HGO ⊢
   have HA:=aa cL;clear cL;go_wp2_with fail;refine(Jz s at' _ (by omega) (by omega)).mono ?_;rintro e w2 ⟨rfl,rfl⟩;have hU:=j7 s.data.toList at';have hG:=FC s.data.toList at';rw[ab]at hU;obtain⟨u,behind,hu⟩: ∃u b,(u,b)=aO s.data.toList at':=⟨_,_,rfl⟩;rw[←hu]at hU hG HGO ⊢
   obtain⟨Φ,Sz,Zm⟩:=hU;have HU:=aa hu;clear hu;simp only at Φ Sz Zm hG;have hgo:=HGO.out;simp only at hgo;clear HGO;have h7:u≠7:=fun h=>hgo (.inr (.inr h))
   rw[J6 h7];have hG2:=hG h7;have PX:=Sz pG;have Ψ:u≤6:=by omega
   have hun:next≤u:=by omega
   have hg:=(Mi (f:=f) (l:=s.data.toList) (fin:=fin) (next:=next) (sum:=sum) HA.symm HU.symm (by omega) hun h7).symm.trans hM;have oy:=zl (s:=s) (i:=fin) HA.symm;have Lu:(s.extract fin at').size≤281474976710656:=by simp;omega
   have qU:(s.extract fin at').data.toList=(s.data.toList.drop fin).take (at'-fin):=Lib.extract_data ..;have Zp:=Rj (u:=u) (sum:=sum) (rs:=rs) (rfl:sat ((s.data.toList.drop fin).take (at'-fin))=_) hS;have hml:=Vl ((s.data.toList.drop fin).take (at'-fin)) u;have hz:=E5 u;have OO:=fun w=>Uy (s.extract fin at') (dm u) w Lu hz.1 hz.2 oy
   rw[qU]at OO;rw[Zp]at hg;generalize manyN ((s.data.toList.drop fin).take (at'-fin)) (dm u)=m at OO hg hml;have HG:=aa hg;have HC:=aa OO;clear hG Φ Sz Zm hgo hg Zp oy Lu qU OO hM hS hz HA HU h7;obtain⟨g,aeP⟩: ∃g,g=behind-at':=⟨_,rfl⟩;have LF:behind=at'+g:=by omega
   rw[←aeP];clear aeP;subst LF;go_wp2_with fail;refine(HC _).mono ?_;rintro e w2 ⟨rfl,rfl⟩;clear HC;go_wp2_with fail;exact⟨⟨f,at'+g,u+1,_,rs+m,PX,by omega,by omega,by omega,by apply Jh;omega,by apply Jh;omega,HG,aa rfl⟩,by simp[intOf];omega⟩
  ·have hE:=(jH (f:=f) (l:=s.data.toList) (fin:=fin) (next:=next) (sum:=sum) (.inl (bR (by rw[ab];omega)))).symm.trans hM;have hS2:=hS.out;have Ii:=HR.out;rw[←hE]at Ii;simp only at Ii;by_cases hb:315360000000000<rs
   ·rw[au (by omega)]at Ii;have DC:=aa Ii;clear hE hM hS hS2 Ii;go_wp2_with fail;go_ret2;exact sa DC rfl
   ·rw[af (by omega),show sum=rs by omega]at Ii;have DC:=aa Ii;clear hE hM hS hS2 Ii;go_wp2_with fail;go_ret2;exact sa DC rfl
theorem Rk (s:ByteArray) (w:World) (hs:s.size≤maxLen):
  Calls prog 112 #[.string s] w fun e w'=>e= .returned (.tuple #[.int .i64 ((bG s.data.toList).1:Nat),.int .i64 ((bG s.data.toList).2:Nat)])∧w=w':=by
 unfold maxLen at hs;by_cases hl:64<s.size
 ·have hE:bG s.data.toList=(0,1):=by rw[bG,au (by rw[ab];exact hl)]
  have HE:=aa hE;clear hE;go_enter func112,ntmps112;go_wp2_with fail;go_ret2;exact sa HE rfl
 ·by_cases h0:s.size=0
  ·have hb:s=ByteArray.empty:=by
    have:s.data= #[]:=Array.eq_empty_of_size_eq_zero h0;cases s;simp only at this;rw[this];rfl
   have hE:bG s.data.toList=(0,30):=by rw[hb];decide
   have HE:=aa hE;clear hE;subst hb;go_enter func112,ntmps112;go_wp2_with fail;go_ret2;exact sa HE rfl
  ·by_cases hm:(measure s.data.toList).1=s.size
   ·exact Ds s w (by omega) (by omega) hm
   ·have hle:=kI s.data.toList;rw[aY,ab]at hle;have hE:bG s.data.toList=(0,30):=by
     rw[bG,af (by rw[ab];omega),au (.inr (by rw[ab];omega))]
    have HE:=aa hE;have Ip:((aY s.data.toList:Int) != (s.size:Int))=true:=by
     rw[jA,aY];omega
    obtain⟨XO,XG⟩:=oI (show 0<s.size by omega);clear hE hm hle;go_enter func112,ntmps112;go_wp2_with fail;refine(uY s _ (by omega)).mono ?_;rintro e w1 ⟨rfl,rfl⟩;go_wp2_with fail;go_ret2;exact sa HE rfl
theorem Ap (s:ByteArray) (i:Nat) (w:World) (hi:s.size≤i):
  Calls prog 114 #[.string s,.int .i64 (i:Int)] w fun e w'=>e= .returned (.tuple #[.int .i64 0,.int .i64 10])∧w=w':=by
 go_enter func114,ntmps114;go_wp2_with fail;go_ret2;exact⟨rfl,rfl⟩
theorem Dt (s:ByteArray) (i:Nat) (w:World) (hi:i<s.size) (h1:s[i].toNat<34∨34<s[i].toNat) (h2:s[i].toNat<39∨39<s[i].toNat) (h3:s[i].toNat<96∨96<s[i].toNat):
  Calls prog 114 #[.string s,.int .i64 (i:Int)] w fun e w'=>e= .returned (.tuple #[.int .i64 0,.int .i64 10])∧w=w':=by
 have b1:((s[i].toNat:Int) != 34)=true:=by rw[jA];omega
 have b2:((s[i].toNat:Int) != 39)=true:=by rw[jA];omega
 have b3:((s[i].toNat:Int) != 96)=true:=by rw[jA];omega
 clear h1 h2 h3;go_enter func114,ntmps114;go_wp2_with fail;go_ret2;exact⟨rfl,rfl⟩
theorem Aq (s:ByteArray) (i:Nat) (w:World) (hs:s.size≤281474976710656) (hi:i<s.size) (T:Option Nat) (hT:fe s s[i] T (i+1)) (hq:s[i]=96)
  (aW:((s[i].toNat:Int) != 34)=true) (aN:((s[i].toNat:Int) != 39)=true) (bW:((s[i].toNat:Int) != 96)=false):
  Calls prog 114 #[.string s,.int .i64 (i:Int)] w fun e w'=>e= .returned (.tuple #[.int .i64 (jT T),.int .i64 (nY 10 T)])∧w=w':=by
 have tE:decide ((i:Int)<0)=false:=by simp
 have hi1:decide (s.size≤i)=false:=by simpa using hi
 have xv:decide ((s.size:Int)≤(i:Int))=false:=by simpa using hi
 have HT:=aa hT;have HQ:=aa hq;clear hT hq
 all_goals
  go_enter func114,ntmps114;go_wp2_with fail;go_loop [7] (fun t=> ∃k:Nat,k≤s.size+1∧t= .int .i64 k∧fe s s[i] T k) (fun t=>s.size+1-(intOf t).toNat)
  case atStart=>exact⟨i+1,by omega,by go_num,HT.out⟩
  case round=>
   obtain⟨k,hk,rfl,hrel⟩:=hrel;clear HT;have HR:=aa hrel;clear hrel;by_cases ax:k<s.size
   ·cases h1:((s[k].toNat:Int)==(s[i].toNat:Int))
    ·go_wp2_with fail;go_round
     case rel=>exact⟨k+1,by omega,by go_num,OV HR.out HQ.out ax (Lt h1)⟩
     case measure=>simp[intOf];omega
    ·go_wp2_with fail;go_ret2;exact⟨iS (AG HR.out ax (u8T h1)) (by simp[jT]) rfl,rfl⟩
   ·go_wp2_with fail;go_ret2;exact⟨iS (AF HR.out (by omega)) rfl rfl,rfl⟩
theorem qH (s:ByteArray) (i:Nat) (w:World) (hs:s.size≤281474976710656) (hi:i<s.size) (T:Option Nat) (hT:fe s s[i] T (i+1)) (hq:s[i]≠96)
  (b1 b2:Bool) (aW:((s[i].toNat:Int) != 34)=b1) (aN:((s[i].toNat:Int) != 39)=b2) (fg:((s[i].toNat:Int) != 96)=true) (yB:(b1&&b2)=false):
  Calls prog 114 #[.string s,.int .i64 (i:Int)] w fun e w'=>e= .returned (.tuple #[.int .i64 (jT T),.int .i64 (nY 10 T)])∧w=w':=by
 have tE:decide ((i:Int)<0)=false:=by simp
 have hi1:decide (s.size≤i)=false:=by simpa using hi
 have xv:decide ((s.size:Int)≤(i:Int))=false:=by simpa using hi
 have HT:=aa hT;have HQ:=aa hq;clear hT hq;cases b1<;>cases b2<;>first|(simp at yB;done)|skip
 all_goals
  clear yB;go_enter func114,ntmps114;go_wp2_with fail;go_loop [7] (fun t=> ∃k:Nat,k≤s.size+1∧t= .int .i64 k∧fe s s[i] T k) (fun t=>s.size+1-(intOf t).toNat)
  case atStart=>exact⟨i+1,by omega,by go_num,HT.out⟩
  case round=>
   obtain⟨k,hk,rfl,hrel⟩:=hrel;clear HT;have HR:=aa hrel;clear hrel;by_cases ax:k<s.size
   ·cases h1:((s[k].toNat:Int)==(s[i].toNat:Int))
    ·cases h2:((s[k].toNat:Int)==10)
     ·cases h3:((s[k].toNat:Int)==92)
      ·go_wp2_with fail;go_round
       case rel=>exact⟨k+1,by omega,by go_num,EZ HR.out HQ.out ax (Lt h1) (pF (n:=10) (by omega) rfl h2) (pF (n:=92) (by omega) rfl h3)⟩
       case measure=>simp[intOf];omega
      ·by_cases nZ:k+1<s.size
       ·cases h4:((s[k+1].toNat:Int)==10)
        ·go_wp2_with fail;go_round
         case rel=>first|exact⟨k+2,by omega,by go_num,AH HR.out HQ.out nZ (Lt h1) (ox (n:=92) (by omega) rfl h3) (pF (n:=10) (by omega) rfl h4)⟩|((repeat apply Exists.intro);exact⟨⟨k+2,by omega,by go_num,AH HR.out HQ.out nZ (Lt h1) (ox (n:=92) (by omega) rfl h3) (pF (n:=10) (by omega) rfl h4)⟩,rfl⟩)
         case measure=>simp[intOf];omega
        ·go_wp2_with fail;go_ret2;exact⟨iS (Cn HR.out HQ.out nZ (Lt h1) (ox (n:=92) (by omega) rfl h3) (ox (n:=10) (by omega) rfl h4)) rfl rfl,rfl⟩
       ·go_wp2_with fail;go_round
        case rel=>first|exact⟨k+2,by omega,by go_num,nG HR.out (by omega) (Lt h1)⟩|((repeat apply Exists.intro);exact⟨⟨k+2,by omega,by go_num,nG HR.out (by omega) (Lt h1)⟩,rfl⟩)
        case measure=>simp[intOf];omega
     ·go_wp2_with fail;go_ret2;exact⟨iS (TT HR.out HQ.out ax (Lt h1) (ox (n:=10) (by omega) rfl h2)) rfl rfl,rfl⟩
    ·go_wp2_with fail;go_ret2;exact⟨iS (AG HR.out ax (u8T h1)) (by simp[jT]) rfl,rfl⟩
   ·go_wp2_with fail;go_ret2;exact⟨iS (AF HR.out (by omega)) rfl rfl,rfl⟩
theorem lp (s:ByteArray) (i:Nat) (w:World) (hs:s.size≤281474976710656):
  Calls prog 114 #[.string s,.int .i64 (i:Int)] w fun e w'=>e= .returned (.tuple #[.int .i64 (jT (bH s.data.toList i)),.int .i64 (nY 10 (bH s.data.toList i))])∧w=w':=by
 by_cases hi:i<s.size
 ·have Sw:i<s.data.toList.length:=by rw[ab];exact hi
  have cL:=ar hi;by_cases hq:dD s[i]=true
  ·have hT:fe s s[i] (bH s.data.toList i) (i+1):=by
    refine⟨by omega,?_⟩;rw[bH,au ⟨Sw,by rw[cL];exact hq⟩,cL];rfl
   by_cases Sx:s[i]=96
   ·have e:s[i].toNat=96:=by rw[Sx];rfl
    exact Aq s i w hs hi _ hT Sx (by rw[jA];omega) (by rw[jA];omega) (by rw[e];rfl)
   ·have e:s[i].toNat=34∨s[i].toNat=39:=by
     simp only[dD,tP,cC]at hq;rcases hq with(h|h)|h
     ·left;rw[h];rfl
     ·right;rw[h];rfl
     ·exact absurd h Sx
    rcases e with e|e
    ·exact qH s i w hs hi _ hT Sx false true (by rw[e];rfl) (by rw[e];rfl) (by rw[e];rfl) rfl
    ·exact qH s i w hs hi _ hT Sx true false (by rw[e];rfl) (by rw[e];rfl) (by rw[e];rfl) rfl
  ·have hT:bH s.data.toList i=none:=by rw[bH,af];rw[cL];exact fun h=>hq h.2
   rw[hT];have h1:s[i].toNat≠34:=fun e=>hq (by simp[dD,cM (n:=34) (by omega) e])
   have h2:s[i].toNat≠39:=fun e=>hq (by simp[dD,cM (n:=39) (by omega) e])
   have h3:s[i].toNat≠96:=fun e=>hq (by simp[dD,cM (n:=96) (by omega) e])
   exact Dt s i w hi (by omega) (by omega) (by omega)
 ·have hT:bH s.data.toList i=none:=by rw[bH,af];rw[ab];exact fun h=>hi h.1
  rw[hT];exact Ap s i w (by omega)
theorem yk (c:UInt8) (w:World):
  Calls prog 154 #[.int .u8 (c.toNat:Int)] w fun e w'=>e= .returned (.int .i64 (mY c))∧w=w':=by
 by_cases h1:48≤c.toNat∧c.toNat≤57
 ·have hf:=aa (show mY c=(c.toNat:Int)-48 by rw[mY,fc,au h1];simp;omega);obtain⟨h1,h2⟩:=h1;go_enter func154,ntmps154;go_wp2_with fail;go_ret;exact⟨aH (by rw[hf.out]),rfl⟩
 ·by_cases h2:97≤c.toNat∧c.toNat≤102
  ·have hf:=aa (show mY c=(c.toNat:Int)-97+10 by rw[mY,fc,af h1,au h2];simp;omega);obtain⟨h2,h3⟩:=h2;clear h1;go_enter func154,ntmps154;go_wp2_with fail;go_ret;exact⟨aH (by rw[hf.out]),rfl⟩
  ·by_cases h3:65≤c.toNat∧c.toNat≤70
   ·have hf:=aa (show mY c=(c.toNat:Int)-65+10 by rw[mY,fc,af h1,af h2,au h3];simp;omega);obtain⟨h3,h4⟩:=h3;clear h1 h2;go_enter func154,ntmps154;go_wp2_with fail;go_ret;exact⟨aH (by rw[hf.out]),rfl⟩
   ·have hf:=aa (show mY c= -1 by rw[mY,fc,af h1,af h2,af h3]);have hc:c.toNat<48∨(57<c.toNat∧c.toNat<65)∨(70<c.toNat∧c.toNat<97)∨102<c.toNat:=by omega
    clear h1 h2 h3;rcases hc with h|⟨h,h'⟩|⟨h,h'⟩|h
    all_goals
     go_enter func154,ntmps154;go_wp2_with fail;go_ret;exact⟨aH (by rw[hf.out]),rfl⟩
theorem BI (w:World) (a:Int) (c:UInt8) (h:a=(c.toNat:Int)):
  (convert 147 9 (.slice (some ⟨w.heap.size,0,none⟩) 1 1)).run prog (w.alloc (.cells #[.int .u8 a] 5))= .ok (.string ⟨#[c]⟩) (w.alloc (.cells #[.int .u8 a] 5)):=by
 subst h;have ho:(w.alloc (.cells #[.int .u8 (c.toNat:Int)] 5)).ownsRow w.heap.size 5 1 (.slice (some ⟨w.heap.size,0,none⟩) 1 1) 1 (cellsOf [c]):=yM (e:=5) (size:=1) w #[.int .u8 (c.toNat:Int)] 1 (aS _) (by unfold maxLen;omega) rfl;exact dX (P:=prog) ho 147 9 underlying147 underlying5 underlying9
theorem ac2 (w:World) (a b:Int) (c d:UInt8) (h:a=(c.toNat:Int)) (h2:b=(d.toNat:Int)):
  (convert 147 9 (.slice (some ⟨w.heap.size,0,none⟩) 2 2)).run prog (w.alloc (.cells #[.int .u8 a,.int .u8 b] 5))= .ok (.string ⟨#[c,d]⟩) (w.alloc (.cells #[.int .u8 a,.int .u8 b] 5)):=by
 subst h h2;have ho:(w.alloc (.cells #[.int .u8 (c.toNat:Int),.int .u8 (d.toNat:Int)] 5)).ownsRow w.heap.size 5 1 (.slice (some ⟨w.heap.size,0,none⟩) 2 2) 2 (cellsOf [c,d]):=yM (e:=5) (size:=1) w #[.int .u8 (c.toNat:Int),.int .u8 (d.toNat:Int)] 2 (aS _) (by unfold maxLen;omega) rfl;exact dX (P:=prog) ho 147 9 underlying147 underlying5 underlying9
theorem ac3 (w:World) (a b x:Int) (c d e:UInt8) (h:a=(c.toNat:Int)) (h2:b=(d.toNat:Int)) (h3:x=(e.toNat:Int)):
  (convert 147 9 (.slice (some ⟨w.heap.size,0,none⟩) 3 3)).run prog (w.alloc (.cells #[.int .u8 a,.int .u8 b,.int .u8 x] 5))= .ok (.string ⟨#[c,d,e]⟩) (w.alloc (.cells #[.int .u8 a,.int .u8 b,.int .u8 x] 5)):=by
 subst h h2 h3;have ho:(w.alloc (.cells #[.int .u8 (c.toNat:Int),.int .u8 (d.toNat:Int),.int .u8 (e.toNat:Int)] 5)).ownsRow w.heap.size 5 1 (.slice (some ⟨w.heap.size,0,none⟩) 3 3) 3 (cellsOf [c,d,e]):=yM (e:=5) (size:=1) w #[.int .u8 (c.toNat:Int),.int .u8 (d.toNat:Int),.int .u8 (e.toNat:Int)] 3 (aS _) (by unfold maxLen;omega) rfl;exact dX (P:=prog) ho 147 9 underlying147 underlying5 underlying9
theorem ac4 (w:World) (a b x y:Int) (c d e f:UInt8) (h:a=(c.toNat:Int)) (h2:b=(d.toNat:Int)) (h3:x=(e.toNat:Int)) (h4:y=(f.toNat:Int)):
  (convert 147 9 (.slice (some ⟨w.heap.size,0,none⟩) 4 4)).run prog (w.alloc (.cells #[.int .u8 a,.int .u8 b,.int .u8 x,.int .u8 y] 5))= .ok (.string ⟨#[c,d,e,f]⟩) (w.alloc (.cells #[.int .u8 a,.int .u8 b,.int .u8 x,.int .u8 y] 5)):=by
 subst h h2 h3 h4;have ho:(w.alloc (.cells #[.int .u8 (c.toNat:Int),.int .u8 (d.toNat:Int),.int .u8 (e.toNat:Int),.int .u8 (f.toNat:Int)] 5)).ownsRow w.heap.size 5 1 (.slice (some ⟨w.heap.size,0,none⟩) 4 4) 4 (cellsOf [c,d,e,f]):=yM (e:=5) (size:=1) w #[.int .u8 (c.toNat:Int),.int .u8 (d.toNat:Int),.int .u8 (e.toNat:Int),.int .u8 (f.toNat:Int)] 4 (aS _) (by unfold maxLen;omega) rfl;exact dX (P:=prog) ho 147 9 underlying147 underlying5 underlying9
theorem lJ (h:x<256):((UInt8.ofNat x).toNat:Int)=(x:Int):=by
 simp;omega
def Ae (o:Option Nat):Int:=match o with|some v=>v|none=> -1
theorem Nw (s:ByteArray) (i k base en:Nat) (w:World) (hs:s.size≤281474976710656) (hi:i≤281474976710657) (mU:1≤k) (hk:k≤8) (tL:en≤s.size) (cN:base=8∨base=16):
  Calls prog 144 #[.string s,.int .i64 (i:Int),.int .i64 (k:Int),.int .i64 (base:Int),.int .i64 (en:Int)] w fun e w'=>e= .returned (.int .i64 (Ae (fk ((s.data.toList.take en).drop i) k base)))∧w=w':=by
 obtain⟨V,hV⟩: ∃V,V=Ae (fk ((s.data.toList.take en).drop i) k base):=⟨_,rfl⟩;rw[←hV];have hlen:((s.data.toList.take en).drop i).length=en-i:=by rw[nV,nU,ab,mW tL]
 by_cases ho:en<i+k
 ·have hT:V= -1:=by
   rw[hV,fk,au (by rw[hlen];omega)];rfl
  have HT:=aa hT;clear hV hT hlen cN;go_enter func144,ntmps144;go_wp2_with fail;go_ret;exact⟨aH HT.out.symm,rfl⟩
 ·obtain⟨D,hD⟩: ∃D,D=((s.data.toList.take en).drop i).take k:=⟨_,rfl⟩;have hDl:D.length=k:=by rw[hD,nU,hlen];omega
  have LO: ∀j,j<k→i+j<s.size:=fun j h=>by omega
  have hDE:D.drop k=[]:=uD (by omega);have aeQ: ∀j (h:j<k),D.drop j=s[i+j]'(LO j h)::D.drop (j+1):=by
   intro j h;rw[pq (by rw[hDl];exact h)]
   congr 1
   subst hD;simp only[I3,vR];exact gl _ _ _
  have hR:fk ((s.data.toList.take en).drop i) k base=fD base 0 D:=by
   rw[fk,af (by rw[hlen];omega),hD]
  rw[hR]at hV;generalize kK:fD base 0 D=R at hV;have HV:=aa hV;have HT:=aa kK;have HD:=aa aeQ;have AD:=aa hDE;clear hV kK aeQ hR hDl hD hlen hDE;rcases cN with rfl|rfl
  all_goals
   go_enter func144,ntmps144;go_wp2_with fail;go_loop [11,12] (fun n x=> ∃j v:Nat,j≤k∧x= .int .i64 j∧n= .int .i64 v∧v≤4294967295∧Hid (v<16^j)∧Hid (fD _ v (D.drop j)=R)) (fun _ x=>k-(intOf x).toNat)
   case atStart=>exact⟨0,0,dQ _,rfl,rfl,by omega,aa (by simp),HT.out⟩
   case round=>
    obtain⟨j,v,hj,rfl,rfl,hv,ab1,hT⟩:=hrel;clear HT;by_cases ax:j<k
    ·have Xs:i+j<s.size:=by omega
     have kK:=hT.out;rw[HD.out j ax,fD]at kK;clear hT;cases hd:fc s[i+j]with
     |none=>
      have uy:=E3 hd;rw[hd]at kK;have HT:=aa kK;clear kK hd;go_wp2_with (go_at_call 154;refine(yk _ _).mono ?_;rintro e w' ⟨rfl,rfl⟩;rw[uy]);go_ret;exact⟨aH (by rw[HV.out,←HT.out];rfl),rfl⟩
     |some d=>
      have uy:=E2 hd;have ajj:=E4 hd;rw[hd]at kK;simp only at kK;clear hd;split at kK
      ·rename_i Sv;have HT:=aa kK;have hp:=ab1.out;have Ay:(16:Nat)^(j+1)=16^j*16:=et ..;have Xi:(16:Nat)^(j+1)≤16^8:=ek (by omega) (by omega);have hq:(v*16+d)<16^(j+1):=by rw[Ay];omega
       have uw:(v*8+d)<16^(j+1):=by omega
       have ZE:v*16+d≤4294967295:=by
        have:(16:Nat)^8=4294967296:=by decide
        omega
       have HQ:=aa hq;have HQ2:=aa uw;clear kK hp Ay Xi hq uw ab1;go_wp2_with (go_at_call 154;refine(yk _ _).mono ?_;rintro e w' ⟨rfl,rfl⟩;rw[uy]);refine⟨⟨trivial,?_⟩,?_⟩
       ·(repeat apply Exists.intro)
        first
         |exact⟨⟨j+1,_,by omega,by go_num,by go_num,by omega,HQ.out,HT.out⟩,rfl⟩
         |exact⟨⟨j+1,_,by omega,by go_num,by go_num,by omega,HQ2.out,HT.out⟩,rfl⟩
       ·simp[intOf];omega
      ·rename_i Sv;have HT:=aa kK;clear kK;go_wp2_with (go_at_call 154;refine(yk _ _).mono ?_;rintro e w' ⟨rfl,rfl⟩;rw[uy])
       all_goals (go_ret;exact⟨aH (by rw[HV.out,←HT.out];rfl),rfl⟩)
    ·have hjk:j=k:=by omega
     have kK:=hT.out;rw[hjk,AD.out,fD]at kK;have HT:=aa kK;clear hT kK ab1;go_wp2_with fail;go_ret;exact⟨aH (by rw[HV.out,←HT.out];rfl),rfl⟩
set_option maxRecDepth 1000000 in
theorem jf (n:Int) (w:World):
  Calls prog 108 #[.int .i64 n] w fun e w'=>e= .returned (.bool (decide (0≤n)&&bq n.toNat))∧w=w':=by
 go_enter func108,ntmps108;go_wp2
 all_goals (go_ret;exact⟨ah (by rw[eH];simp[bq];omega),rfl⟩)
theorem J7 (n:Int) (w:World):
  Calls prog 91 #[.int .i64 n] w fun e w'=>e= .returned (.string ⟨(gC n).toArray⟩)∧Below w.heap.size w w':=by
 obtain⟨b,hb⟩: ∃b,b=(decide (0≤n)&&bq n.toNat):=⟨_,rfl⟩;cases b
 ·have hE:gC n=[]:=by
   rw[gC,af];rintro⟨h1,h2⟩;rw[h2,dR h1]at hb;cases hb
  have HE:=aa hE;have HB:=aa hb;clear hE hb;go_enter func91,ntmps91;go_wp2_with fail;refine(jf _ _).mono ?_;rintro e w' ⟨rfl,rfl⟩;rw[←HB.out];go_wp2_with fail;go_ret;exact⟨by rw[HE.out];rfl,aV _ _⟩
 ·have aN:=hb.symm;rw[kN,uF]at aN;obtain⟨m,rfl⟩: ∃m:Nat,n=m:=⟨n.toNat,by omega⟩;have hE:gC (m:Int)=fZ m:=by rw[gC,au aN,my]
  have hle:m≤1114111:=by have:=uN aN.2;simpa using this
  rw[hE];have HB:=aa hb;clear hb aN hE;by_cases h1:m<128
  ·obtain⟨c1,jQ⟩: ∃c,c=UInt8.ofNat (m):=⟨_,rfl⟩;have hF:fZ m=[c1]:=by rw[fZ,au h1,jQ]
   have HF:=aa hF;have Mc:=BI w (m:Int) c1 (by have:=lJ (x:=m) (by omega);rw[jQ];omega);have bQ:=(aV w.heap.size w).alloc (aS _) (.cells #[.int .u8 (m:Int)] 5);have bC:=aa bQ;have x1:(m:Int)<128:=by omega
   clear hF bQ jQ h1;go_enter func91,ntmps91;go_wp2_with fail;refine(jf _ _).mono ?_;rintro e w' ⟨rfl,rfl⟩;rw[←HB.out];go_wp2_with fail;go_ret;exact⟨by rw[HF.out];rfl,bC.out⟩
  ·by_cases h2:m<2048
   ·obtain⟨c1,jQ⟩: ∃c,c=UInt8.ofNat (192+m/64):=⟨_,rfl⟩;obtain⟨c2,kr⟩: ∃c,c=UInt8.ofNat (128+m%64):=⟨_,rfl⟩;have hF:fZ m=[c1,c2]:=by rw[fZ,af h1,au h2,jQ,kr]
    have HF:=aa hF;have Mc:=ac2 w (192+(m:Int)/64) (128+(m:Int)%64) c1 c2 (by have:=lJ (x:=192+m/64) (by omega);rw[jQ];omega) (by have:=lJ (x:=128+m%64) (by omega);rw[kr];omega);have bQ:=(aV w.heap.size w).alloc (aS _) (.cells #[.int .u8 (192+(m:Int)/64),.int .u8 (128+(m:Int)%64)] 5);have bC:=aa bQ;have x1:128≤(m:Int):=by omega
    have x2:(m:Int)<2048:=by omega
    clear hF bQ jQ kr h1 h2;go_enter func91,ntmps91;go_wp2_with fail;refine(jf _ _).mono ?_;rintro e w' ⟨rfl,rfl⟩;rw[←HB.out];go_wp2_with fail;go_ret;exact⟨by rw[HF.out];rfl,bC.out⟩
   ·by_cases h3:m<65536
    ·obtain⟨c1,jQ⟩: ∃c,c=UInt8.ofNat (224+m/4096):=⟨_,rfl⟩;obtain⟨c2,kr⟩: ∃c,c=UInt8.ofNat (128+m/64%64):=⟨_,rfl⟩;obtain⟨c3,Sf⟩: ∃c,c=UInt8.ofNat (128+m%64):=⟨_,rfl⟩;have hF:fZ m=[c1,c2,c3]:=by rw[fZ,af h1,af h2,au h3,jQ,kr,Sf]
     have HF:=aa hF;have Mc:=ac3 w (224+(m:Int)/4096) (128+(m:Int)/64%64) (128+(m:Int)%64) c1 c2 c3 (by have:=lJ (x:=224+m/4096) (by omega);rw[jQ];omega) (by have:=lJ (x:=128+m/64%64) (by omega);rw[kr];omega) (by have:=lJ (x:=128+m%64) (by omega);rw[Sf];omega);have bQ:=(aV w.heap.size w).alloc (aS _) (.cells #[.int .u8 (224+(m:Int)/4096),.int .u8 (128+(m:Int)/64%64),.int .u8 (128+(m:Int)%64)] 5);have bC:=aa bQ;have x1:2048≤(m:Int):=by omega
     have x2:(m:Int)≤65535:=by omega
     have ht:((m:Int)<65536)=True:=aA (by omega);clear hF bQ jQ kr Sf h1 h2 h3;go_enter func91,ntmps91;go_wp2_with fail;refine(jf _ _).mono ?_;rintro e w' ⟨rfl,rfl⟩;rw[←HB.out];go_wp2_with fail;go_ret;exact⟨by rw[HF.out];rfl,bC.out⟩
    ·obtain⟨c1,jQ⟩: ∃c,c=UInt8.ofNat (240+m/262144):=⟨_,rfl⟩;obtain⟨c2,kr⟩: ∃c,c=UInt8.ofNat (128+m/4096%64):=⟨_,rfl⟩;obtain⟨c3,Sf⟩: ∃c,c=UInt8.ofNat (128+m/64%64):=⟨_,rfl⟩;obtain⟨c4,hc4⟩: ∃c,c=UInt8.ofNat (128+m%64):=⟨_,rfl⟩;have hF:fZ m=[c1,c2,c3,c4]:=by rw[fZ,af h1,af h2,af h3,jQ,kr,Sf,hc4]
     have HF:=aa hF;have Mc:=ac4 w (240+(m:Int)/262144) (128+(m:Int)/4096%64) (128+(m:Int)/64%64) (128+(m:Int)%64) c1 c2 c3 c4 (by have:=lJ (x:=240+m/262144) (by omega);rw[jQ];omega) (by have:=lJ (x:=128+m/4096%64) (by omega);rw[kr];omega) (by have:=lJ (x:=128+m/64%64) (by omega);rw[Sf];omega) (by have:=lJ (x:=128+m%64) (by omega);rw[hc4];omega);have bQ:=(aV w.heap.size w).alloc (aS _) (.cells #[.int .u8 (240+(m:Int)/262144),.int .u8 (128+(m:Int)/4096%64),.int .u8 (128+(m:Int)/64%64),.int .u8 (128+(m:Int)%64)] 5);have bC:=aa bQ;have x1:65535<(m:Int):=by omega
     have ht:((m:Int)<65536)=False:=bU (by omega);clear hF bQ jQ kr Sf hc4 h1 h2 h3;go_enter func91,ntmps91;go_wp2_with fail;refine(jf _ _).mono ?_;rintro e w' ⟨rfl,rfl⟩;rw[←HB.out];go_wp2_with fail;go_ret;exact⟨by rw[HF.out];rfl,bC.out⟩
theorem Rl (s:ByteArray) (i v:Nat) (w:World) (hs:s.size≤281474976710656) (h1:1≤v) (h4:v≤4) (hi:i+v≤s.size):
  Calls prog 90 #[.string s,.int .i64 (i:Int),.int .i64 (v:Int)] w fun e w'=>e= .returned (.int .i64 (jY s.data.toList i v))∧w=w':=by
 have cL:=ar (s:=s) (i:=i) (by omega);have hc:(s[i]'(by omega)).toNat<256:=uG _;obtain⟨V,hV⟩: ∃V,V=jY s.data.toList i v:=⟨_,rfl⟩;rw[←hV];rw[jY,cL]at hV;by_cases SL:v=1
 ·subst SL;have hV2:V=((s[i]'(by omega)).toNat:Int):=by rw[hV];simp[gP,Gd]
  have HV:=aa hV2;clear hV hV2 cL;go_enter func90,ntmps90;go_wp2_with fail;go_ret;exact⟨aH HV.out.symm,rfl⟩
 ·have ZA:=Uz s.data.toList i (((s[i]'(by omega)).toNat:Int)-Gd v) (by unfold Gd;(repeat' split)<;>omega);have hv:v=2∨v=3∨v=4:=by omega
  obtain⟨b3,b4,O,e3,e4,hO,afY⟩: ∃(b3 b4:Bool) (O:Int),((v:Int)==3)=b3∧((v:Int)==4)=b4∧Gd v=O∧((b3=false∧b4=false∧O=192)∨(b3=true∧b4=false∧O=224)∨(b3=false∧b4=true∧O=240)):=
   ⟨_,_,_,rfl,rfl,rfl,by rcases hv with rfl|rfl|rfl<;>decide⟩
  rw[hO]at hV ZA;have e1:((v:Int)==1)=false:=bN.2 (by omega);have his: ∀j,j+1<v→i+(j+1)<s.size:=fun j h=>by omega
  have HI:=aa his;have ab2:i<s.size:=by omega
  clear cL hv hO his;obtain⟨N0,tl⟩: ∃N0,N0=((s[i]'ab2).toNat:Int)-O:=⟨_,rfl⟩;rw[←tl]at hV ZA;have HN:=aa tl;have HG:=aa ZA;have HV:=aa hV;clear hV ZA tl;rcases afY with⟨rfl,rfl,rfl⟩|⟨rfl,rfl,rfl⟩|⟨rfl,rfl,rfl⟩
  all_goals
   go_enter func90,ntmps90;go_wp2_with fail;go_loop [8,9] (fun n x=> ∃(j:Nat) (y:Int),j+1≤v∧x= .int .i64 ((j:Int)+1)∧n= .int .i64 y∧ -100000000≤y∧y≤100000000∧Hid (y=gP s.data.toList i N0 j)) (fun _ x=>v-(intOf x).toNat)
   case atStart=>
    have h0:=HG.out 0 (by omega);have hN1:=HN.out;rw[gP]at h0;exact⟨0,N0,by omega,rfl,by rw[hN1],h0.1,h0.2,aa rfl⟩
   case round=>
    obtain⟨j,y,hj,rfl,rfl,hy1,hy2,hY⟩:=hrel;by_cases ax:j+1<v
    ·have aeR:=HI.out j ax;have hb:(s[i+(j+1)]).toNat<256:=uG _;have dz:=HG.out (j+1) (by omega);rw[gP,←hY.out,ar aeR]at dz;have XQ:Hid (y*64+((s[i+(j+1)]).toNat:Int)-128=gP s.data.toList i N0 (j+1)):=aa (by rw[gP,←hY.out,ar aeR]);have HS:=aa dz;clear dz hY;go_wp2_with fail;exact⟨⟨j+1,_,by omega,by go_num,rfl,HS.out.1,HS.out.2,XQ⟩,by simp[intOf];omega⟩
    ·have hE:V=y:=by rw[HV.out,hY.out,show v-1=j by omega]
     have HE:=aa hE;clear hE hY;go_wp2_with fail;go_ret;exact⟨aH HE.out.symm,rfl⟩
def Ba (c:UInt8):Int:=if eA c=true then((lG c).toNat:Int)else-1
def ey (j:Nat):Nat:=match j with|0=>97|1=>98|2=>116|3=>110|4=>118|5=>102|_=>114
theorem mO: ∀c:UInt8,∀k:Fin 7,c.toNat=ey k.val→Ba c=(k.val:Int)+7:=
 Cw (P:=fun c=> ∀k:Fin 7,c.toNat=ey k.val→Ba c=(k.val:Int)+7) (by decide+kernel)
theorem Rn: ∀c:UInt8,(∀k:Fin 7,c.toNat≠ey k.val)→Ba c= -1:=
 Cw (P:=fun c=>(∀k:Fin 7,c.toNat≠ey k.val)→Ba c= -1) (by decide+kernel)
theorem mP (h: ∀j,j<k→c.toNat≠ey j) (hm:ey k=m) (hq:((m:Int)==(c.toNat:Int))=false): ∀j,j<k+1→c.toNat≠ey j:=by
 intro j hj;by_cases hjk:j<k
 ·exact h j hjk
 ·have:j=k:=by omega
  subst this;have:=bN.1 hq;omega
theorem YU: ∀k:Fin 7,(((⟨#[97,7,98,8,116,9,110,10,118,11,102,12,114,13]⟩:ByteArray)[2*k.val]'(by have:=k.isLt;simp[ByteArray.size];omega)).toNat:Int)=ey k.val:=by decide
theorem YV: ∀k:Fin 7,(((⟨#[97,7,98,8,116,9,110,10,118,11,102,12,114,13]⟩:ByteArray)[2*k.val+1]'(by have:=k.isLt;simp[ByteArray.size];omega)).toNat:Int)=(k.val:Int)+7:=by decide
theorem iq (c:UInt8) (w:World):
  Calls prog 143 #[.int .u8 (c.toNat:Int),.string ⟨#[97,7,98,8,116,9,110,10,118,11,102,12,114,13]⟩] w fun e w'=>e= .returned (.int .i64 (Ba c))∧w=w':=by
 obtain⟨s,hs⟩: ∃s:ByteArray,s=⟨#[97,7,98,8,116,9,110,10,118,11,102,12,114,13]⟩:=⟨_,rfl⟩;rw[←hs];have iE:s.size=14:=by rw[hs];rfl
 have he: ∀k:Fin 7,((s[2*k.val]'(by omega)).toNat:Int)=ey k.val:=by
  subst hs;exact YU
 have hv: ∀k:Fin 7,((s[2*k.val+1]'(by omega)).toNat:Int)=(k.val:Int)+7:=by
  subst hs;exact YV
 have HE:=aa he;have HV:=aa hv;clear hs he hv;go_enter func143,ntmps143;go_wp2_with fail;go_loop [5] (fun t=> ∃k:Nat,k≤7∧t= .int .i64 ((2*k:Nat):Int)∧Hid (∀j,j<k→c.toNat≠ey j)) (fun t=>14-(intOf t).toNat)
 case atStart=>exact⟨0,by omega,rfl,aa (fun j hj=>absurd hj (by omega))⟩
 case round=>
  obtain⟨k,hk,rfl,fM⟩:=hrel;have om:k=0∨k=1∨k=2∨k=3∨k=4∨k=5∨k=6∨k=7:=by omega
  clear hk;rcases om with rfl|rfl|rfl|rfl|rfl|rfl|rfl|rfl
  ·have he:=HE ⟨0,by omega⟩;have hv:=HV ⟨0,by omega⟩;simp only[ey,Nat.reduceMul,Nat.reduceAdd]at he hv;cases hq:((97:Int)==(c.toNat:Int))
   ·have HM:=aa (mP fM (m:=97) rfl hq);clear fM;go_wp2_with fail;exact⟨⟨1,by omega,rfl,HM⟩,by simp[intOf]⟩
   ·have hE:=aa (mO c ⟨0,by omega⟩ (by have:=cC.1 hq;simp only[ey];omega));clear fM;go_wp2_with fail;go_ret;exact⟨aH (by rw[hE.out];rfl),rfl⟩
  ·have he:=HE ⟨1,by omega⟩;have hv:=HV ⟨1,by omega⟩;simp only[ey,Nat.reduceMul,Nat.reduceAdd]at he hv;cases hq:((98:Int)==(c.toNat:Int))
   ·have HM:=aa (mP fM (m:=98) rfl hq);clear fM;go_wp2_with fail;exact⟨⟨2,by omega,rfl,HM⟩,by simp[intOf]⟩
   ·have hE:=aa (mO c ⟨1,by omega⟩ (by have:=cC.1 hq;simp only[ey];omega));clear fM;go_wp2_with fail;go_ret;exact⟨aH (by rw[hE.out];rfl),rfl⟩
  ·have he:=HE ⟨2,by omega⟩;have hv:=HV ⟨2,by omega⟩;simp only[ey,Nat.reduceMul,Nat.reduceAdd]at he hv;cases hq:((116:Int)==(c.toNat:Int))
   ·have HM:=aa (mP fM (m:=116) rfl hq);clear fM;go_wp2_with fail;exact⟨⟨3,by omega,rfl,HM⟩,by simp[intOf]⟩
   ·have hE:=aa (mO c ⟨2,by omega⟩ (by have:=cC.1 hq;simp only[ey];omega));clear fM;go_wp2_with fail;go_ret;exact⟨aH (by rw[hE.out];rfl),rfl⟩
  ·have he:=HE ⟨3,by omega⟩;have hv:=HV ⟨3,by omega⟩;simp only[ey,Nat.reduceMul,Nat.reduceAdd]at he hv;cases hq:((110:Int)==(c.toNat:Int))
   ·have HM:=aa (mP fM (m:=110) rfl hq);clear fM;go_wp2_with fail;exact⟨⟨4,by omega,rfl,HM⟩,by simp[intOf]⟩
   ·have hE:=aa (mO c ⟨3,by omega⟩ (by have:=cC.1 hq;simp only[ey];omega));clear fM;go_wp2_with fail;go_ret;exact⟨aH (by rw[hE.out];rfl),rfl⟩
  ·have he:=HE ⟨4,by omega⟩;have hv:=HV ⟨4,by omega⟩;simp only[ey,Nat.reduceMul,Nat.reduceAdd]at he hv;cases hq:((118:Int)==(c.toNat:Int))
   ·have HM:=aa (mP fM (m:=118) rfl hq);clear fM;go_wp2_with fail;exact⟨⟨5,by omega,rfl,HM⟩,by simp[intOf]⟩
   ·have hE:=aa (mO c ⟨4,by omega⟩ (by have:=cC.1 hq;simp only[ey];omega));clear fM;go_wp2_with fail;go_ret;exact⟨aH (by rw[hE.out];rfl),rfl⟩
  ·have he:=HE ⟨5,by omega⟩;have hv:=HV ⟨5,by omega⟩;simp only[ey,Nat.reduceMul,Nat.reduceAdd]at he hv;cases hq:((102:Int)==(c.toNat:Int))
   ·have HM:=aa (mP fM (m:=102) rfl hq);clear fM;go_wp2_with fail;exact⟨⟨6,by omega,rfl,HM⟩,by simp[intOf]⟩
   ·have hE:=aa (mO c ⟨5,by omega⟩ (by have:=cC.1 hq;simp only[ey];omega));clear fM;go_wp2_with fail;go_ret;exact⟨aH (by rw[hE.out];rfl),rfl⟩
  ·have he:=HE ⟨6,by omega⟩;have hv:=HV ⟨6,by omega⟩;simp only[ey,Nat.reduceMul,Nat.reduceAdd]at he hv;cases hq:((114:Int)==(c.toNat:Int))
   ·have HM:=aa (mP fM (m:=114) rfl hq);clear fM;go_wp2_with fail;exact⟨⟨7,by omega,rfl,HM⟩,by simp[intOf]⟩
   ·have hE:=aa (mO c ⟨6,by omega⟩ (by have:=cC.1 hq;simp only[ey];omega));clear fM;go_wp2_with fail;go_ret;exact⟨aH (by rw[hE.out];rfl),rfl⟩
  ·have hE:=aa (Rn c (fun k=>fM k.val k.isLt));clear fM;go_wp2_with fail;go_ret;exact⟨aH (by rw[hE.out]),rfl⟩
def Vm (w:World) (n:Nat) (e:Ending) (w':World):Prop:= ∃r:Int,e= .returned (.tuple #[.int .i32 r,.int .i64 (n:Int)])∧Below w.heap.size w w'
theorem Vn (s:ByteArray) (i:Nat) (w:World) (hs:s.size≤281474976710656) (hi:i<s.size):
  Calls prog 72 #[.string s,.int .i64 (i:Int)] w (Vm w (tU s.data.toList i)):=by
 obtain⟨N,hN⟩: ∃N,N=tU s.data.toList i:=⟨_,rfl⟩;rw[←hN];have HN:=aa hN;clear hN;have tE:decide ((i:Int)<0)=false:=by simp
 have hi1:decide (s.size≤i)=false:=by simpa using hi
 have xv:decide ((s.size:Int)≤(i:Int))=false:=by simpa using hi
 go_enter func72,ntmps72;go_wp2_with fail;go_loopw [6] (fun t wr=> ∃v:Nat,1≤v∧v≤5∧i+v≤s.size+1∧t= .int .i64 v∧Below w.heap.size w wr∧Hid (∀u,1≤u→u<v→gC (jY s.data.toList i u)≠(s.data.toList.drop i).take u)) (fun t _=>5-(intOf t).toNat)
 case atStart=>exact⟨1,by omega,by omega,by omega,rfl,aV _ _,aa (fun u h1 h2=>by omega)⟩
 case round=>
  obtain⟨v,SL,hv5,hiv,rfl,bQ,tJ⟩:=hrel;by_cases hc:v≤4∧i+v≤s.size
  ·obtain⟨hv4,aeS⟩:=hc;go_wp2_with fail;refine(Rl s i v _ hs SL hv4 aeS).mono ?_;rintro e w1 ⟨rfl,rfl⟩;obtain⟨n,hn⟩: ∃n,n=jY s.data.toList i v:=⟨_,rfl⟩;rw[←hn];have HG:=aa hn;clear hn;go_wp2_with fail;refine(J7 n _).mono ?_;rintro e w1 ⟨rfl,aW⟩;obtain⟨F,hF⟩: ∃F:ByteArray,F=⟨(gC n).toArray⟩:=⟨_,rfl⟩;have hFd:F.data.toList=gC n:=by rw[hF]
   have hFs:F.size≤4:=by rw[←ab,hFd];exact QI n
   have HB:=aa (bQ.trans (aW.mono bQ.size));rw[←hF];have HFd:=aa hFd;clear hF hFd aW bQ;by_cases hh:gC n=(s.data.toList.drop i).take v
   ·have hNv:=QH (l:=s.data.toList) (i:=i) (w:=v) (by rw[ab];exact aeS) SL hv4 (by rw[←HG.out];exact hh);have iE:F.size=v:=by rw[←ab,HFd.out,hh,nU,nV,ab];omega
    have hex:((s.extract i (i+v)).toList==F.toList)=true:=by
     rw[cC,nS,nS,HFd.out,hh,Lib.extract_data,show i+v-i=v by omega]
    have HNv:=aa hNv;clear hNv hh tJ;go_wp2_with fail;go_ret2;exact⟨_,by rw[HN.out,HNv.out];rfl,HB⟩
   ·have Th: ∀u,1≤u→u<v+1→gC (jY s.data.toList i u)≠(s.data.toList.drop i).take u:=by
     intro u h1 h2;by_cases hu:u<v
     ·exact tJ u h1 hu
     ·obtain rfl:u=v:=by omega
      rw[←HG.out];exact hh
    have hex:((s.extract i (i+v)).toList==F.toList)=false:=by
     rw[bN,nS,nS,HFd.out,Lib.extract_data,show i+v-i=v by omega];exact fun e=>hh e.symm
    have HNO:=aa Th;clear hh tJ Th;cases iE:((F.size:Int)==(v:Int))
    all_goals
     go_wp2_with fail;exact⟨⟨v+1,by omega,by omega,by omega,by go_num,HB,HNO⟩,by simp[intOf];omega⟩
  ·have tl:=MP (l:=s.data.toList) (i:=i) (w:=v) (by rw[ab];exact hi) (by rw[ab];omega) tJ;have HN0:=aa tl;clear tl tJ;by_cases hv4:v≤4
   ·have hx:((v:Int)≤(s.size:Int)-(i:Int))=False:=bU (by omega);clear hc;go_wp2_with fail;go_ret2;exact⟨_,by rw[HN.out,HN0.out];rfl,bQ⟩
   ·have hx:((v:Int)≤4)=False:=bU (by omega);clear hc;go_wp2_with fail;go_ret2;exact⟨_,by rw[HN.out,HN0.out];rfl,bQ⟩
theorem kd (s:ByteArray) (w:World) (hs:s.size≤281474976710656):
  Calls prog 51 #[.string s] w fun e w'=>e= .returned (.bool (valid s.data.toList))∧Below w.heap.size w w':=by
 have h0:=Cl s.data.toList;obtain⟨V,hV⟩: ∃V,V=valid s.data.toList:=⟨_,rfl⟩;rw[←hV]at h0 ⊢
 have HZ:=aa h0;clear hV h0;go_enter func51,ntmps51;go_wp2_with fail;go_loopw [3] (fun t wr=> ∃k:Nat,k≤s.size∧t= .int .i64 k∧Below w.heap.size w wr∧Hid (wa s.data.toList k=V)) (fun t _=>s.size-(intOf t).toNat)
 case atStart=>exact⟨0,by omega,rfl,aV _ _,aa HZ⟩
 case round=>
  obtain⟨k,hk,rfl,bQ,gV⟩:=hrel;by_cases ax:k<s.size
  ·go_wp2_with fail;refine(Vn s k _ hs ax).mono ?_;rintro e w1 ⟨r,rfl,aW⟩;have oC:=bQ.trans (aW.mono bQ.size);clear bQ aW;cases hb:bad s.data.toList k
   ·have ej:=wj s.data.toList k;have xu:=Tw s.data.toList k (by rw[ab];exact ax);rw[ab]at xu;have HS:=aa ((Cm (by rw[ab];exact ax) hb).trans gV);have ZF:tU s.data.toList k=(dec s.data.toList k).2:=by rw[tU,hb,af (by simp)]
    rw[ZF];generalize (dec s.data.toList k).2=n at*
    have SR:((n:Int)==0)=false:=bN.2 (by omega);clear ZF gV hb;go_wp2_with fail;exact⟨⟨k+n,by omega,by apply Jh;omega,oC,HS⟩,by simp[intOf];omega⟩
   ·have ZF:tU s.data.toList k=0:=by rw[tU,hb,au rfl]
    have hE:=(EY (by rw[ab];exact ax) hb).symm.trans gV;rw[ZF];have HE:=aa hE;clear ZF hE gV hb;go_wp2_with fail;go_ret;exact⟨ah HE,oC⟩
  ·have hE:=(EX (l:=s.data.toList) (i:=k) (by rw[ab];omega)).symm.trans gV;have HE:=aa hE;clear hE gV;go_wp2_with fail;go_ret;exact⟨ah HE,bQ⟩
theorem nL (s:ByteArray) (x y z:Int) (i k base en:Nat) (hx:x=(i:Int)) (hy:y=(k:Int)) (hz:z=(base:Int)) (w:World) (hs:s.size≤281474976710656) (hi:i≤281474976710657) (mU:1≤k) (hk:k≤8) (tL:en≤s.size) (cN:base=8∨base=16):
  Calls prog 144 #[.string s,.int .i64 x,.int .i64 y,.int .i64 z,.int .i64 (en:Int)] w fun e w'=>e= .returned (.int .i64 (Ae (fk ((s.data.toList.take en).drop i) k base)))∧w=w':=by
 subst hx hy hz;exact Nw s i k base en w hs hi mU hk tL cN
def kQ (q:UInt8) (l:List UInt8):List UInt8×Nat:=match dJ q l with|none=>([],0)|some (b,n)=>(b,n+1)
def oe (w:World) (r:List UInt8×Nat) (e:Ending) (w':World):Prop:=e= .returned (.tuple #[.string ⟨r.1.toArray⟩,.int .i64 (r.2:Int)])∧Below w.heap.size w w'
theorem ke {r:List UInt8×Nat} {b:List UInt8} (h:r=(b,n)) (hb:Below w.heap.size w w'):oe w r (.returned (.tuple #[.string ⟨b.toArray⟩,.int .i64 (n:Int)])) w':=by
 subst h;exact⟨rfl,hb⟩
theorem lq {r:List UInt8×Nat} (h:r=([],0)) (hb:Below w.heap.size w w'):oe w r (.returned (.tuple #[.string ⟨#[]⟩,.int .i64 0])) w':=ke h hb
theorem oO (h:i<en) (tL:en≤s.size):(s.data.toList.take en).drop i=(s[i]'(by omega))::(s.data.toList.take en).drop (i+1):=by
 rw[pq (by rw[nU,ab];omega)]
 congr 1
 rw[I3];exact gl _ _ _
theorem Du (s:ByteArray) (i en:Nat) (q:UInt8) (w:World) (hs:s.size≤281474976710656) (tL:en≤s.size) (hi:i<en) (h:en≤i+1):
  Calls prog 132 #[.string s,.int .i64 (i:Int),.int .i64 (en:Int),.int .u8 (q.toNat:Int)] w (oe w (kQ q ((s.data.toList.take en).drop (i+1)))):=by
 have hE:kQ q ((s.data.toList.take en).drop (i+1))=([],0):=by
  rw[uD (by rw[nU];omega)];rfl
 have HE:=aa hE;clear hE;go_enter func132,ntmps132;go_wp2_with fail;go_ret2;exact lq HE.out (aV _ _)
theorem Ar (s:ByteArray) (i en:Nat) (q:UInt8) (w:World) (hs:s.size≤281474976710656) (tL:en≤s.size) (hi:i+1<en) (hq:q=34∨q=39) (hc:s[i+1]'(by omega)=q∨s[i+1]'(by omega)=92):
  Calls prog 132 #[.string s,.int .i64 (i:Int),.int .i64 (en:Int),.int .u8 (q.toNat:Int)] w (oe w (kQ q ((s.data.toList.take en).drop (i+1)))):=by
 have hE:kQ q ((s.data.toList.take en).drop (i+1))=([s[i+1]'(by omega)],2):=by
  rw[oO hi tL];generalize s[i+1]'(by omega)=c at hc;have hp:eA c=false:=by rcases hc with rfl|rfl<;>(first|(rcases hq with rfl|rfl<;>rfl)|rfl)
  simp[kQ,dJ,hp,hc.symm]
 have HE:=aa hE;have Mc:=BI w _ (s[i+1]'(by omega)) rfl;have HB:=aa ((aV w.heap.size w).alloc (aS _) (.cells #[.int .u8 ((s[i+1]'(by omega)).toNat:Int)] 5));have hin:i+1<s.size:=by omega
 clear hE;cases tm:((s[i+1].toNat:Int)==(q.toNat:Int))
 ·have h92:((s[i+1].toNat:Int)==92)=true:=by
   rcases hc with h|h
   ·rw[h]at tm;simp at tm
   ·rw[h];rfl
  clear hc hq;go_enter func132,ntmps132;go_wp2_with fail;go_ret2;exact ke HE.out HB.out
 ·clear hc hq;go_enter func132,ntmps132;go_wp2_with fail;go_ret2;exact ke HE.out HB.out
theorem yu (s:ByteArray) (i en:Nat) (q:UInt8) (w:World) (hs:s.size≤281474976710656) (tL:en≤s.size) (hi:i+1<en) (tm:((s[i+1]'(by omega)).toNat:Int)≠(q.toNat:Int)) (qP:((s[i+1]'(by omega)).toNat:Int)≠92) (hp:eA (s[i+1]'(by omega))=true):
  Calls prog 132 #[.string s,.int .i64 (i:Int),.int .i64 (en:Int),.int .u8 (q.toNat:Int)] w (oe w (kQ q ((s.data.toList.take en).drop (i+1)))):=by
 have hin:i+1<s.size:=by omega
 have hE:kQ q ((s.data.toList.take en).drop (i+1))=([lG s[i+1]],2):=by
  rw[oO hi tL];simp[kQ,dJ,hp]
 have hl:Ba s[i+1]=((lG s[i+1]).toNat:Int):=by rw[Ba,au hp]
 obtain⟨p,Ay⟩: ∃p,p=lG s[i+1]:=⟨_,rfl⟩;have ark:(p.toNat:Int)≤13:=by
  rw[Ay];unfold lG;repeat' split
  all_goals decide
 rw[←Ay]at hE hl;have HE:=aa hE;have Mc:=BI w _ p rfl;have HB:=aa ((aV w.heap.size w).alloc (aS _) (.cells #[.int .u8 (p.toNat:Int)] 5));have e1:=bN.2 tm;have e2:=bN.2 qP;clear hE hp Ay tm qP;go_enter func132,ntmps132;go_wp2_with fail;refine(iq _ _).mono ?_;rintro e w1 ⟨rfl,rfl⟩;rw[hl];go_wp2_with fail;go_ret2;exact ke HE.out HB.out
theorem Hn (s:ByteArray) (i en:Nat) (q:UInt8) (w:World) (hs:s.size≤281474976710656) (tL:en≤s.size) (hi:i+1<en) (hq:q=34∨q=39) (hc:s[i+1]'(by omega)=120):
  Calls prog 132 #[.string s,.int .i64 (i:Int),.int .i64 (en:Int),.int .u8 (q.toNat:Int)] w (oe w (kQ q ((s.data.toList.take en).drop (i+1)))):=by
 have hin:i+1<s.size:=by omega
 have hql:(q.toNat:Int)=34∨(q.toNat:Int)=39:=by
  rcases hq with rfl|rfl
  ·exact .inl rfl
  ·exact .inr rfl
 have TI:(s[i+1].toNat:Int)=120:=by rw[hc];rfl
 have uw: ¬((120:UInt8)=92∨(120:UInt8)=q):=by rcases hq with rfl|rfl<;>decide
 have hE:kQ q ((s.data.toList.take en).drop (i+1))=match fk ((s.data.toList.take en).drop (i+1+1)) 2 16 with|some v=>([UInt8.ofNat v],4)|none=>([],0):=by
  rw[oO hi tL,hc];simp only[kQ,dJ,af uw,show eA 120=false from rfl,lE,iG,kT];cases fk ((s.data.toList.take en).drop (i+1+1)) 2 16<;>rfl
 have hl:Ba s[i+1]= -1:=by rw[hc];decide
 have e1:((s[i+1].toNat:Int)==(q.toNat:Int))=false:=bN.2 (by omega);have e2:((s[i+1].toNat:Int)==92)=false:=bN.2 (by omega);have e3:((s[i+1].toNat:Int)==120)=true:=cC.2 TI;cases hd:fk ((s.data.toList.take en).drop (i+1+1)) 2 16 with
 |none=>
  rw[hd]at hE;have HE:=aa hE;have HD:=aa hd;clear hE hd hq hql TI uw hc;go_enter func132,ntmps132;go_wp2_with fail;refine(iq _ _).mono ?_;rintro e w1 ⟨rfl,rfl⟩;rw[hl];go_wp2_with fail;refine(nL s _ _ _ (i+2) 2 16 en (by omega) (by rfl) (by rfl) _ hs (by omega) (by omega) (by omega) tL (.inr rfl)).mono ?_;rintro e w1 ⟨rfl,rfl⟩;rw[HD.out,Ae];go_wp2_with fail;go_ret2;exact lq HE.out (aV _ _)
 |some v=>
  rw[hd]at hE;simp only at hE;have hv:=sM (by omega) hd;obtain⟨x,hx⟩: ∃x,x=UInt8.ofNat v:=⟨_,rfl⟩;have hxv:(v:Int)=(x.toNat:Int):=by rw[hx,lJ (by omega)]
  rw[←hx]at hE;have HE:=aa hE;have HD:=aa hd;have Mc:=BI w (v:Int) x hxv;have HB:=aa ((aV w.heap.size w).alloc (aS _) (.cells #[.int .u8 (v:Int)] 5));have PN:(v:Int)≤255:=by omega
  clear hE hd hq hql TI uw hc hx hxv hv;go_enter func132,ntmps132;go_wp2_with fail;refine(iq _ _).mono ?_;rintro e w1 ⟨rfl,rfl⟩;rw[hl];go_wp2_with fail;refine(nL s _ _ _ (i+2) 2 16 en (by omega) (by rfl) (by rfl) _ hs (by omega) (by omega) (by omega) tL (.inr rfl)).mono ?_;rintro e w1 ⟨rfl,rfl⟩;rw[HD.out,Ae];go_wp2_with fail;go_ret2;exact ke HE.out HB.out
def XR (D:Option Nat):List UInt8×Nat:=match D with|some v=>(if v≤255 then([UInt8.ofNat v],4)else([],0))|none=>([],0)
theorem Ho (s:ByteArray) (i en:Nat) (q:UInt8) (w:World) (hs:s.size≤281474976710656) (tL:en≤s.size) (hi:i+1<en) (hq:q=34∨q=39) (hc:s[i+1]'(by omega)=117∨s[i+1]'(by omega)=85):
  Calls prog 132 #[.string s,.int .i64 (i:Int),.int .i64 (en:Int),.int .u8 (q.toNat:Int)] w (oe w (kQ q ((s.data.toList.take en).drop (i+1)))):=by
 have hin:i+1<s.size:=by omega
 have hql:(q.toNat:Int)=34∨(q.toNat:Int)=39:=by
  rcases hq with rfl|rfl
  ·exact .inl rfl
  ·exact .inr rfl
 obtain⟨k,b,hk,hE,e4,e5,Xy⟩: ∃(k:Nat) (b:Bool),(k=4∨k=8)∧(kQ q ((s.data.toList.take en).drop (i+1))=match fk ((s.data.toList.take en).drop (i+1+1)) k 16 with|some v=>(if bq v then(fZ v,2+k)else([],0))|none=>([],0))∧
   ((s[i+1].toNat:Int)==117)=b∧((s[i+1].toNat:Int)==85)= !b∧((b=true∧k=4∧(s[i+1].toNat:Int)=117)∨(b=false∧k=8∧(s[i+1].toNat:Int)=85)):=by
  rcases hc with hc|hc
  ·refine⟨4,true,.inl rfl,?_,by rw[hc];rfl,by rw[hc];rfl,.inl ⟨rfl,rfl,by rw[hc];rfl⟩⟩;have uw: ¬((117:UInt8)=92∨(117:UInt8)=q):=by rcases hq with rfl|rfl<;>decide
   rw[oO hi tL,hc];simp only[kQ,dJ,af uw,show eA 117=false from rfl,lE,iG,kT,show ¬((117:UInt8)=120)from by decide];cases fk ((s.data.toList.take en).drop (i+1+1)) 4 16 with
   |none=>rfl
   |some v=>cases h:bq v<;>simp[h]
  ·refine⟨8,false,.inr rfl,?_,by rw[hc];rfl,by rw[hc];rfl,.inr ⟨rfl,rfl,by rw[hc];rfl⟩⟩;have uw: ¬((85:UInt8)=92∨(85:UInt8)=q):=by rcases hq with rfl|rfl<;>decide
   rw[oO hi tL,hc];simp only[kQ,dJ,af uw,show eA 85=false from rfl,lE,iG,kT,show ¬((85:UInt8)=120)from by decide,show ¬((85:UInt8)=117)from by decide];cases fk ((s.data.toList.take en).drop (i+1+1)) 8 16 with
   |none=>rfl
   |some v=>cases h:bq v<;>simp[h]
 have hl:Ba s[i+1]= -1:=by rcases hc with hc|hc<;>(rw[hc];decide)
 have e1:((s[i+1].toNat:Int)==(q.toNat:Int))=false:=bN.2 (by omega);have e2:((s[i+1].toNat:Int)==92)=false:=bN.2 (by omega);have e3:((s[i+1].toNat:Int)==120)=false:=bN.2 (by omega);obtain⟨D,hD⟩: ∃D,D=fk ((s.data.toList.take en).drop (i+1+1)) k 16:=⟨_,rfl⟩;have Ad: ∀w,Calls prog 144 #[.string s,.int .i64 ((i:Int)+2),.int .i64 (k:Int),.int .i64 16,.int .i64 (en:Int)] w fun e w'=>e= .returned (.int .i64 (Ae D))∧w=w':=by
  intro w;rw[hD];exact nL s _ _ _ (i+2) k 16 en (by omega) rfl (by rfl) w hs (by omega) (by omega) (by omega) tL (.inr rfl)
 rw[←hD]at hE;obtain⟨n,hn⟩: ∃n,n=Ae D:=⟨_,rfl⟩;obtain⟨R,hR⟩: ∃R,R=kQ q ((s.data.toList.take en).drop (i+1)):=⟨_,rfl⟩;rw[←hR]at hE ⊢
 have hEn:(decide (0≤n)&&bq n.toNat)=true∧R=(gC n,2+k)∨(decide (0≤n)&&bq n.toNat)=false∧R=([],0):=by
  cases D with
  |none=>rw[hn];exact .inr ⟨rfl,hE⟩
  |some v=>
   rw[hn];simp only[Ae,my]at hE ⊢
   cases hr:bq v
   ·rw[hr]at hE;exact .inr ⟨by simp,by simpa using hE⟩
   ·rw[hr]at hE;refine .inl ⟨by simp,?_⟩;rw[gC,au ⟨by omega,by simpa using hr⟩];simpa using hE
 rw[←hn]at Ad;have HN:=aa Ad;clear hE hD hR hn Ad hq hql hc;rcases hEn with⟨hr,hE⟩|⟨hr,hE⟩
 ·have HE:=aa hE;have HR:=aa hr;clear hE hr;rcases Xy with⟨rfl,rfl,Xy⟩|⟨rfl,rfl,Xy⟩
  all_goals
   clear hk Xy;go_enter func132,ntmps132;go_wp2_with fail;refine(iq _ _).mono ?_;rintro e w1 ⟨rfl,rfl⟩;rw[hl];go_wp2_with fail;refine(HN.out _).mono ?_;rintro e w1 ⟨rfl,rfl⟩;go_wp2_with fail;refine(jf _ _).mono ?_;rintro e w1 ⟨rfl,rfl⟩;rw[HR.out];go_wp2_with fail;refine(J7 _ _).mono ?_;rintro e w1 ⟨rfl,hb⟩;go_wp2_with fail;go_ret2;exact ke HE.out hb
 ·have HE:=aa hE;have HR:=aa hr;clear hE hr;rcases Xy with⟨rfl,rfl,Xy⟩|⟨rfl,rfl,Xy⟩
  all_goals
   clear hk Xy;go_enter func132,ntmps132;go_wp2_with fail;refine(iq _ _).mono ?_;rintro e w1 ⟨rfl,rfl⟩;rw[hl];go_wp2_with fail;refine(HN.out _).mono ?_;rintro e w1 ⟨rfl,rfl⟩;go_wp2_with fail;refine(jf _ _).mono ?_;rintro e w1 ⟨rfl,rfl⟩;rw[HR.out];go_wp2_with fail;go_ret2;exact lq HE.out (aV _ _)
theorem Dv (s:ByteArray) (i en:Nat) (q:UInt8) (w:World) (hs:s.size≤281474976710656) (tL:en≤s.size) (hi:i+1<en) (tm:((s[i+1]'(by omega)).toNat:Int)≠(q.toNat:Int)) (hn: ∀t∈[(92:UInt8),120,117,85],s[i+1]'(by omega)≠t) (hp:eA (s[i+1]'(by omega))=false):
  Calls prog 132 #[.string s,.int .i64 (i:Int),.int .i64 (en:Int),.int .u8 (q.toNat:Int)] w (oe w (kQ q ((s.data.toList.take en).drop (i+1)))):=by
 have hin:i+1<s.size:=by omega
 have bZ: ∀t:UInt8,s[i+1]≠t→((s[i+1].toNat:Int)==(t.toNat:Int))=false:=fun t h=>bN.2 (fun e=>h (Bh.1 (by omega)))
 have n1:s[i+1]≠92:=hn 92 (by simp);have n2:s[i+1]≠120:=hn 120 (by simp);have n3:s[i+1]≠117:=hn 117 (by simp);have n4:s[i+1]≠85:=hn 85 (by simp);have n5:s[i+1]≠q:=fun e=>tm (by rw[e])
 obtain⟨D,hD⟩: ∃D,D=fk ((s.data.toList.take en).drop (i+1)) 3 8:=⟨_,rfl⟩;have Ad: ∀w,Calls prog 144 #[.string s,.int .i64 ((i:Int)+1),.int .i64 3,.int .i64 8,.int .i64 (en:Int)] w fun e w'=>e= .returned (.int .i64 (Ae D))∧w=w':=by
  intro w;rw[hD];exact nL s _ _ _ (i+1) 3 8 en (by omega) (by rfl) (by rfl) w hs (by omega) (by omega) (by omega) tL (.inl rfl)
 have hE:kQ q ((s.data.toList.take en).drop (i+1))=XR D:=by
  rw[hD,oO hi tL];have h5: ¬(s[i+1]=92∨s[i+1]=q):=by rintro(h|h)<;>first|exact n1 h|exact n5 h
  unfold kQ dJ;simp only[hp,h5,n2,n3,n4,iG,lE];cases fk (s[i+1]::(s.data.toList.take en).drop (i+1+1)) 3 8 with
  |none=>rfl
  |some v=>by_cases h:v≤255<;>simp[h,XR]
 have ab3: ∀v,D=some v→v<512:=fun v h=>by
  have:=sM (by omega) (hD.symm.trans h);simpa using this
 have hl:Ba s[i+1]= -1:=by rw[Ba,hp];rfl
 have e1:((s[i+1].toNat:Int)==(q.toNat:Int))=false:=bN.2 tm;have e2:((s[i+1].toNat:Int)==92)=false:=bZ 92 n1;have e3:((s[i+1].toNat:Int)==120)=false:=bZ 120 n2;have e4:((s[i+1].toNat:Int)==117)=false:=bZ 117 n3;have e5:((s[i+1].toNat:Int)==85)=false:=bZ 85 n4;obtain⟨R,hR⟩: ∃R,R=kQ q ((s.data.toList.take en).drop (i+1)):=⟨_,rfl⟩;rw[←hR]at hE ⊢
 have HN:=aa Ad;clear Ad hD hR bZ n1 n2 n3 n4 n5 hn hp tm;cases D with
 |none=>
  simp only[XR]at hE;have HE:=aa hE;clear hE ab3;go_enter func132,ntmps132;go_wp2_with fail;refine(iq _ _).mono ?_;rintro e w1 ⟨rfl,rfl⟩;rw[hl];go_wp2_with fail;refine(HN.out _).mono ?_;rintro e w1 ⟨rfl,rfl⟩;rw[Ae];go_wp2_with fail;go_ret2;exact lq HE.out (aV _ _)
 |some v=>
  have hv5:=ab3 v rfl;simp only[XR]at hE;clear ab3;by_cases hv:v≤255
  ·rw[au hv]at hE;obtain⟨x,hx⟩: ∃x,x=UInt8.ofNat v:=⟨_,rfl⟩;have hxv:(v:Int)=(x.toNat:Int):=by rw[hx,lJ (by omega)]
   rw[←hx]at hE;have HE:=aa hE;have Mc:=BI w (v:Int) x hxv;have HB:=aa ((aV w.heap.size w).alloc (aS _) (.cells #[.int .u8 (v:Int)] 5));have PN:(v:Int)≤255:=by omega
   clear hE hx hxv hv5 hv;go_enter func132,ntmps132;go_wp2_with fail;refine(iq _ _).mono ?_;rintro e w1 ⟨rfl,rfl⟩;rw[hl];go_wp2_with fail;refine(HN.out _).mono ?_;rintro e w1 ⟨rfl,rfl⟩;rw[Ae];go_wp2_with fail;go_ret2;exact ke HE.out HB.out
  ·rw[af hv]at hE;have HE:=aa hE;have PN:(255:Int)<(v:Int):=by omega
   clear hE hv;go_enter func132,ntmps132;go_wp2_with fail;refine(iq _ _).mono ?_;rintro e w1 ⟨rfl,rfl⟩;rw[hl];go_wp2_with fail;refine(HN.out _).mono ?_;rintro e w1 ⟨rfl,rfl⟩;rw[Ae];go_wp2_with fail;go_ret2;exact lq HE.out (aV _ _)
theorem Nx (s:ByteArray) (i en:Nat) (q:UInt8) (w:World) (hs:s.size≤281474976710656) (tL:en≤s.size) (hi:i<en) (hq:q=34∨q=39):
  Calls prog 132 #[.string s,.int .i64 (i:Int),.int .i64 (en:Int),.int .u8 (q.toNat:Int)] w (oe w (kQ q ((s.data.toList.take en).drop (i+1)))):=by
 by_cases h:i+1<en
 ·have hin:i+1<s.size:=by omega
  by_cases h1:s[i+1]=q∨s[i+1]=92
  ·exact Ar s i en q w hs tL h hq h1
  ·have Eo:s[i+1]≠q:=fun e=>h1 (.inl e)
   have uw:s[i+1]≠92:=fun e=>h1 (.inr e)
   have tm:((s[i+1]).toNat:Int)≠(q.toNat:Int):=fun e=>Eo (Bh.1 (by omega))
   cases hp:eA s[i+1]
   ·by_cases h2:s[i+1]=120
    ·exact Hn s i en q w hs tL h hq h2
    ·by_cases h3:s[i+1]=117∨s[i+1]=85
     ·exact Ho s i en q w hs tL h hq h3
     ·refine Dv s i en q w hs tL h tm ?_ hp;intro t ht;simp only[gB,kM,iP]at ht;rcases ht with rfl|rfl|rfl|rfl
      ·exact uw
      ·exact h2
      ·exact fun e=>h3 (.inl e)
      ·exact fun e=>h3 (.inr e)
   ·refine yu s i en q w hs tL h tm ?_ hp;exact fun e=>uw (cM (n:=92) (by omega) (by omega))
 ·exact Du s i en q w hs tL hi (by omega)
theorem zM (s:ByteArray) (x y:Int) (i en:Nat) (hx:x=(i:Int)) (hy:y=(en:Int)) (q:UInt8) (w:World) (hs:s.size≤281474976710656) (tL:en≤s.size) (hi:i<en) (hq:q=34∨q=39):
  Calls prog 132 #[.string s,.int .i64 x,.int .i64 y,.int .u8 (q.toNat:Int)] w (oe w (kQ q ((s.data.toList.take en).drop (i+1)))):=by
 subst hx hy;exact Nx s i en q w hs tL hi hq
theorem Ro {xs:List Value} (h:w.ownsRow base e size v n xs): ∃ao c',v= .slice ao n c':=by
 rcases h.2 with⟨rfl,rfl⟩|⟨g,cap,cur,rfl,_⟩
 ·exact⟨_,_,rfl⟩
 ·exact⟨_,_,rfl⟩
theorem KQ (l:List UInt8) (m:Nat):(inside l).drop m=(l.take (l.length-1)).drop (m+1):=by
 have h:(l.take (l.length-1)).drop 1=(l.drop 1).take (l.length-2):=by rw[List.drop_take,show l.length-1-1=l.length-2 by omega]
 rw[Bm m 1,←yS,h,inside]
theorem Rp (h:k<s.size-2):aq (inside s.data.toList) k=s[k+1]'(by omega):=by
 rw[inside,ab,aq,lA,List.getElem?_take_of_lt h,List.getElem?_drop,Bm 1 k,eG (by rw[ab];omega)];exact gl _ _ _
theorem Rq (h:dJ q l=none):kQ q l=([],0):=by rw[kQ,h]
theorem Rr {b:List UInt8} (h:dJ q l=some (b,n)):kQ q l=(b,n+1):=by rw[kQ,h]
theorem As (s:ByteArray) (w:World) (hs:s.size≤281474976710656) (hv:valid s.data.toList=false):
  Calls prog 115 #[.string s] w (kE w (4,[])):=by
 go_enter func115,ntmps115;go_wp2_with fail;refine(kd s _ (by omega)).mono ?_;rintro e w1 ⟨rfl,hb⟩;rw[hv];go_wp2_with fail;go_ret2;exact⟨rfl,hb⟩
theorem yv (s:ByteArray) (w:World) (hs:s.size≤281474976710656) (hv:valid s.data.toList=true) (hl:bH s.data.toList 0≠some s.data.toList.length):
  Calls prog 115 #[.string s] w (kE w (10,[])):=by
 go_enter func115,ntmps115;go_wp2_with fail;refine(kd s _ (by omega)).mono ?_;rintro e w1 ⟨rfl,hb⟩;rw[hv];rw[ab]at hl;have HB:=aa hb;clear hb hv;cases hE:bH s.data.toList 0 with
 |none=>
  have HE:=aa hE;clear hE hl;go_wp2_with fail;refine(lp s 0 _ (by omega)).mono ?_;rintro e w2 ⟨rfl,rfl⟩;rw[HE.out];simp only[jT,nY];go_wp2_with fail;go_ret2;exact⟨rfl,HB⟩
 |some n=>
  rw[hE]at hl;have bZ:((n:Int) != (s.size:Int))=true:=by
   rw[jA];intro e;exact hl (by rw[show n=s.size by omega])
  have HE:=aa hE;clear hE hl;go_wp2_with fail;refine(lp s 0 _ (by omega)).mono ?_;rintro e w2 ⟨rfl,rfl⟩;rw[HE.out];simp only[jT,nY];go_wp2_with fail;go_ret2;exact⟨rfl,HB⟩
theorem At (s:ByteArray) (w:World) (hs:s.size≤281474976710) (hv:valid s.data.toList=true) (hl:bH s.data.toList 0=some s.data.toList.length) (h0:0<s.size) (hq:s[0].toNat=96):
  Calls prog 115 #[.string s] w (kE w (0,inside s.data.toList)):=by
 have h2:=(jb hl).1;rw[ab]at hl h2;have hw:IntKind.i64.wrap ((s.size:Int)-1)=(s.size:Int)-1:=by rw[xE];omega
 have yC:((s.size:Int) != (s.size:Int))=false:=by simp
 go_enter func115,ntmps115;go_wp2_with fail;refine(kd s _ (by omega)).mono ?_;rintro e w1 ⟨rfl,hb⟩;rw[hv];have HB:=aa hb;have HL:=aa hl;have HQ:=aa hq;clear hb hv hl hq;go_wp2_with fail;refine(lp s 0 _ (by omega)).mono ?_;rintro e w2 ⟨rfl,rfl⟩;rw[HL.out];simp only[jT,nY];have aaQ:((s[0].toNat:Int)==96)=true:=by rw[HQ.out];rfl
 go_wp2_with fail;go_ret2;exact⟨by rw[←ya,mk_data];rfl,HB⟩
theorem Au (s:ByteArray) (w:World) (hs:s.size≤281474976710) (hv:valid s.data.toList=true) (hl:bH s.data.toList 0=some s.data.toList.length) (h0:0<s.size) (hq:s[0]=34∨s[0]=39) (T:Option (List UInt8)) (hT:oz s[0] (inside s.data.toList) 0 []=T):
  Calls prog 115 #[.string s] w (kE w (xQ T)):=by
 have h2:=(jb hl).1;have Sw:=uP h2;rw[ab]at hl h2 Sw;have hw:IntKind.i64.wrap ((s.size:Int)-1)=(s.size:Int)-1:=by rw[xE];omega
 have yC:((s.size:Int) != (s.size:Int))=false:=by simp
 have aaQ:((s[0].toNat:Int)==96)=false:=by rcases hq with h|h<;>(rw[h];rfl)
 obtain⟨i0,tE,lB,cK,ep⟩:=kR iT;have HL:=aa hl;have HQ:=aa hq;have HT:=aa hT;have HI:=aa Sw;have HID:=aa (fun m=>KQ s.data.toList m);obtain⟨I,hI⟩: ∃I,I=inside s.data.toList:=⟨_,rfl⟩;have It:Hid (∀k (h:k<s.size-2),aq I k=s[k+1]'(by omega)):=aa (fun k h=>by rw[hI];exact Rp h);rw[←hI]at HT HI HID;clear hl hq hT Sw hI;go_enter func115,ntmps115;go_wp2_with fail;refine(kd s _ (by omega)).mono ?_;rintro e w1 ⟨rfl,hb⟩;rw[hv];clear hv;go_wp2_with fail;refine(lp s 0 _ (by omega)).mono ?_;rintro e w2 ⟨rfl,rfl⟩;rw[HL.out];simp only[jT,nY];go_wp2_with fail;go_loopw [7,8] (fun v x wr=> ∃(k:Nat) (bs:List UInt8),k≤s.size-2∧bs.length≤k∧x= .int .i64 ((k:Int)+1)∧wr.ownsRow w.heap.size 5 1 v bs.length (cellsOf bs)∧Below w.heap.size w wr∧Hid (oz s[0] I k bs=T)) (fun _ x _=>s.size-(intOf x).toNat)
 case atStart=>exact⟨0,[],dQ _,aS _,rfl,rh _ _ _ _,hb,HT.out⟩
 case round=>
  obtain⟨k,bs,hk,Ω,rfl,aL,bQ,hT⟩:=hrel;clear HT hb;by_cases ax:k<s.size-2
  ·have WZ:k<I.length:=by rw[HI.out];exact ax
   have cL:aq I k=s[k+1]:=It.out k ax;have p1:((k:Int)+1<(s.size:Int)-1)=True:=aA (by omega);cases hc:((s[k+1].toNat:Int) != 92)
   ·have qP:aq I k=92:=by rw[cL];exact ox (n:=92) (by omega) rfl (by simpa [bne]using hc)
    have oD:(s.data.toList.take (s.size-1)).drop (k+1+1)=I.drop (k+1):=by rw[HID.out,ab]
    cases he:dJ s[0] (I.drop (k+1))with
    |none=>
     have FR:=(E7 (bs:=bs) WZ qP he).symm.trans hT.out;have LH:=Rq he;rw[←oD]at LH;have HE:=aa LH;have SA:=aa FR;clear qP oD he FR LH cL hT WZ;go_wp2_with fail;refine(zM s _ _ (k+1) (s.size-1) (by omega) (by omega) s[0] _ (by omega) (by omega) (by omega) HQ.out).mono ?_;rintro e w4 ⟨rfl,fg⟩;rw[HE.out];have HB:=aa (bQ.trans (fg.mono bQ.size));clear fg aL bQ;go_wp2_with fail;go_ret2;exact⟨by rw[←SA.out];rfl,HB.out⟩
    |some p=>
     obtain⟨b,n⟩:=p;have hn:=wH he;have FR:=(Jy (bs:=bs) WZ qP he).trans hT.out;have LH:=Rr he;rw[←oD]at LH;rw[nV,HI.out]at hn;obtain⟨AR,xz,hn3⟩:=hn;have HE:=aa LH;have SA:=aa FR;clear qP oD he FR LH cL hT WZ;go_wp2_with fail;refine(zM s _ _ (k+1) (s.size-1) (by omega) (by omega) s[0] _ (by omega) (by omega) (by omega) HQ.out).mono ?_;rintro e w4 ⟨rfl,fg⟩;rw[HE.out];have arl:(((n+1:Nat):Int)==0)=false:=by rw[bN];omega
     have HB:=aa (bQ.trans (fg.mono bQ.size));have HO:=aa (oR aL fg);have iE:(⟨b.toArray⟩:ByteArray).size=b.length:=by simp[ByteArray.size]
     clear fg aL bQ;obtain⟨B,hB⟩: ∃B:ByteArray,B=⟨b.toArray⟩:=⟨_,rfl⟩;have hBc:Lib.strCells B=cellsOf b:=by rw[hB];simp[cellsOf,Lib.strCells]
     simp only;rw[←hB]at iE ⊢
     have HBc:=aa hBc;clear hB hBc;obtain⟨ao,c',rfl⟩:=Ro HO.out;go_wp2_with (at_builtin;refine Lib.wpList_append_own_string _ rfl _ _ 147 9 rfl w.heap.size 5 i0 underlying147 underlying9 tE lB cK ep _ _ _ rfl HO.out B rfl (by unfold maxLen;omega) (by omega) HB.out.size ?_);intro v3 w3 wb A5 _;have iF:=aa (HB.out.grown A5 HB.out.size (fun g hg=>(HO.out.lt g hg).1));have pg:=aa wb;clear wb A5;go_wp2_with fail;exact⟨⟨k+1+n,bs++b,by omega,by rw[iJ];omega,by apply Jh;omega,by rw[fX,iJ,←HBc.out];exact pg.out,iF.out,SA.out⟩,by simp[intOf];omega⟩
   ·have qP:aq I k≠92:=by rw[cL];exact pF (n:=92) (by omega) rfl (by simpa [bne]using hc)
    have FR:=(Cv (q:=s[0]) (bs:=bs) WZ qP).trans hT.out;rw[cL]at FR;have SA:=aa FR;clear qP cL FR hT;go_wp2_with (at_builtin;refine ir rfl (.tmp 42) (.tmp 46) 147 rfl w.heap.size 5 (.int .u8 0) 1 1 iT underlying147 rfl (by omega) _ bs.length _ rfl aL [.int .u8 (s[k+1].toNat:Int)] rfl rfl (zZ rfl) (by unfold maxLen;omega) (by omega) bQ.size ?_);intro v' w4 ho hg;have HB:=aa (bQ.grown hg bQ.size (fun g qZ=>(aL.lt g qZ).1));have HO:=aa ho;clear ho hg aL bQ;go_wp2_with fail;exact⟨⟨k+1,bs++[s[k+1]],by omega,by simp;omega,by go_num,by rw[fX,iJ];exact HO.out,HB.out,SA.out⟩,by simp[intOf];omega⟩
  ·have p1:((k:Int)+1<(s.size:Int)-1)=False:=bU (by omega);have SC:=(Jw (q:=s[0]) (bs:=bs) (k:=k) (by rw[HI.out];omega)).symm.trans hT.out;have HTe:=aa SC;have Jd:=dX (P:=prog) aL 147 9 underlying147 underlying5 underlying9;have iE:(⟨bs.toArray⟩:ByteArray).size≤281474976710656:=by simp[ByteArray.size];omega
   have HS:=aa iE;clear SC hT iE;go_wp2_with fail;refine(kd ⟨bs.toArray⟩ _ HS.out).mono ?_;rintro e w4 ⟨rfl,fg⟩;have Jg:=oR aL fg;have aby:=dX (P:=prog) Jg 147 9 underlying147 underlying5 underlying9;have HB:=aa (bQ.trans (fg.mono bQ.size));clear aL Jg bQ fg Jd;rw[show ((⟨bs.toArray⟩:ByteArray).data.toList)=bs from by simp];cases Xa:valid bs
   ·have HV:=aa Xa;clear Xa;go_wp2_with fail;go_ret2;exact⟨by rw[←HTe.out,xQ];simp[HV.out],HB.out⟩
   ·have HV:=aa Xa;clear Xa;go_wp2_with fail;go_ret2;exact⟨by rw[←HTe.out,xQ];simp[HV.out],HB.out⟩
theorem KR (s:ByteArray) (w:World) (hs:s.size≤281474976710):
  Calls prog 115 #[.string s] w (kE w (lV s.data.toList)):=by
 unfold lV;cases hv:valid s.data.toList
 ·rw[au rfl];exact As s w (by omega) hv
 ·rw[af (by simp)];by_cases hl:bH s.data.toList 0=some s.data.toList.length
  ·rw[af (by simpa using hl)];have h2:=(jb hl).1;have h0:0<s.size:=by rw[ab]at h2;omega
   have cL:=ar h0;have hqq:=(jb hl).2;rw[cL]at hqq ⊢
   by_cases hq:s[0]=96
   ·rw[au hq];exact At s w hs hv hl h0 (by rw[hq];rfl)
   ·rw[af hq];have Ξ:s[0]=34∨s[0]=39:=by
     simp only[dD,tP,cC]at hqq;rcases hqq with(h|h)|h
     ·exact .inl h
     ·exact .inr h
     ·exact absurd h hq
    have hT:oz s[0] (inside s.data.toList) 0 []=kW s[0] s.data.toList.length (inside s.data.toList):=by
     rw[oz,Bj,kg s[0] (inside s.data.toList).length s.data.toList.length _ (aS _) (by rw[uP h2];omega)];cases kW s[0] s.data.toList.length (inside s.data.toList)<;>simp
    exact Au s w hs hv hl h0 Ξ _ hT
  ·rw[au hl];exact yv s w (by omega) hv hl
def cW (w:World) (p:Prop) (e:Ending) (w':World):Prop:= ∃b:Bool,e= .returned (.bool b)∧(b=true↔p)∧Below w.heap.size w w'
theorem cW.yes {p:Prop} (h:p) (hb:Below w.heap.size w w'):cW w p (.returned (.bool true)) w':=⟨true,rfl,by simp[h],hb⟩
theorem cW.no {p:Prop} (h: ¬p) (hb:Below w.heap.size w w'):cW w p (.returned (.bool false)) w':=⟨false,rfl,by simp[h],hb⟩
theorem gS {x:ByteArray} :(x.toList==y.toList)=true↔x=y:=by
 rw[cC,nS,nS];constructor
 ·intro e;rw[←mk_data x,←mk_data y,e]
 ·rintro rfl;rfl
theorem yl (h1:cU b1 w v1 xs) (h2:cU b2 w v2 ys) (hn:xs.length≤1099511627776) (hm:ys.length≤1099511627776):
  Calls prog 69 #[v1,v2] w (cW w (xs=ys)):=by
 obtain⟨a1,c1,rfl,jQ⟩:=h1;obtain⟨a2,c2,rfl,kr⟩:=h2;have H1:=aa jQ;have H2:=aa kr;clear jQ kr;by_cases hl:xs.length=ys.length
 ·have HL:=aa hl;rw[←hl]at hm ⊢
  clear hl;go_enter func69,ntmps69;go_wp2_with fail;go_loopw [13] (fun t13 wr=> ∃j q:Nat,Hid (j≤xs.length)∧t13= .int .i64 (j:Int)∧wr=w.drewN q∧Hid (∀i (h:i<j) (hx:i<xs.length) (hy:i<ys.length),xs[i]=ys[i])) (fun t13 _=>xs.length-(intOf t13).toNat)
  case atStart=>exact⟨0,0,aa (dQ _),rfl,rfl,aa fun i h=>absurd h (by omega)⟩
  case round=>
   obtain⟨j,q,hj,rfl,rfl,fO⟩:=hrel;by_cases ax:j<xs.length
   ·have p1:((j:Int)<(xs.length:Int))=True:=aA (by omega);have nZ:j<ys.length:=by rw[←HL.out];exact ax
    obtain⟨g1,o1,rfl,_,_,x1⟩:=H1 j ax;obtain⟨g2,o2,rfl,_,_,x2⟩:=H2 j nZ;generalize hX:xs[j]=x at x1;generalize hY:ys[j]=y at x2;have HX:=aa (show xs[j]=x from hX);have HY:=aa hY;clear hX hY;by_cases he:x=y
    ·have e1:(x.toList==y.toList)=true:=gS.2 he;have HN:Hid (∀i (h:i<j+1) (hx:i<xs.length) (hy:i<ys.length),xs[i]=ys[i]):=aa fun i h hx hy=>by
      by_cases e:i=j
      ·subst e;rw[HX.out,HY.out,he]
      ·exact fO i (by omega) hx hy
     clear he;go_wp2_with fail;go_quiet (fail);go_wp2_with fail;exact⟨⟨j+1,q+nq,aa ax,rfl,rfl,HN⟩,by simp[intOf];omega⟩
    ·have e1:(x.toList==y.toList)=false:=by rw[←yP,gS];exact he
     have HN:Hid (¬xs=ys):=aa fun e=>he (by rw[←HX.out,←HY.out];subst e;rfl)
     clear he;go_wp2_with fail;go_quiet (fail);go_wp2_with fail;go_ret;exact cW.no HN (by rw[jV];exact cr (aV _ _) _)
   ·have p1:((j:Int)<(xs.length:Int))=False:=bU (by omega);have HN:=aa (I6 HL fun i hx hy=>fO i (by omega) hx hy);go_wp2_with fail;go_ret;exact cW.yes HN (cr (aV _ _) _)
 ·have p1:((xs.length:Int)==(ys.length:Int))=false:=by rw[bN];omega
  have HN:Hid (¬xs=ys):=aa fun e=>hl (by rw[e])
  clear hl;go_enter func69,ntmps69;go_wp2_with fail;go_ret;exact cW.no HN (aV _ _)
theorem Rs {xs ys:List PM} (h1:eI b1 w v1 xs) (h2:eI b2 w v2 ys) (hn:xs.length≤1099511627776) (hm:ys.length≤1099511627776):
  Calls prog 68 #[v1,v2] w (cW w (xs=ys)):=by
 obtain⟨a1,c1,rfl,jQ⟩:=h1;obtain⟨a2,c2,rfl,kr⟩:=h2;have H1:=aa jQ;have H2:=aa kr;clear jQ kr;by_cases hl:xs.length=ys.length
 ·have HL:=aa hl;rw[←hl]at hm ⊢
  clear hl;go_enter func68,ntmps68;go_wp2_with fail;go_loopw [13] (fun t13 wr=> ∃j q:Nat,Hid (j≤xs.length)∧t13= .int .i64 (j:Int)∧wr=w.drewN q∧Hid (∀i (h:i<j) (hx:i<xs.length) (hy:i<ys.length),xs[i]=ys[i])) (fun t13 _=>xs.length-(intOf t13).toNat)
  case atStart=>exact⟨0,0,aa (dQ _),rfl,rfl,aa fun i h=>absurd h (by omega)⟩
  case round=>
   obtain⟨j,q,hj,rfl,rfl,fO⟩:=hrel;by_cases ax:j<xs.length
   ·have p1:((j:Int)<(xs.length:Int))=True:=aA (by omega);have nZ:j<ys.length:=by rw[←HL.out];exact ax
    obtain⟨g1,o1,rfl,_,_,x1,x1b,x1c⟩:=H1 j ax;obtain⟨g2,o2,rfl,_,_,x2,x2b,x2c⟩:=H2 j nZ;generalize hX:xs[j]=x at x1 x1b x1c;generalize hY:ys[j]=y at x2 x2b x2c;have HX:=aa (show xs[j]=x from hX);have HY:=aa hY;clear hX hY;by_cases he:x=y
    ·have HN:Hid (∀i (h:i<j+1) (hx:i<xs.length) (hy:i<ys.length),xs[i]=ys[i]):=aa fun i h hx hy=>by
      by_cases e:i=j
      ·subst e;rw[HX.out,HY.out,he]
      ·exact fO i (by omega) hx hy
     subst he;clear HX HY;obtain⟨n1,Wv,v1⟩:=x;simp only at x1 x1b x1c x2 x2b x2c;go_wp2_with fail;go_quiet (fail);go_wp2_with fail;exact⟨⟨j+1,q+nq,aa ax,rfl,rfl,HN⟩,by simp[intOf];omega⟩
    ·have HN:Hid (¬xs=ys):=aa fun e=>he (by rw[←HX.out,←HY.out];subst e;rfl)
     clear HX HY;obtain⟨n1,Wv,v1⟩:=x;obtain⟨n2,p2',v2⟩:=y;simp only at x1 x1b x1c x2 x2b x2c;by_cases h1:n1=n2
     ·subst h1;by_cases h2:Wv=p2'
      ·subst h2;have e1:(v1.toList=v2.toList)=False:=bU fun e=>he (by rw[gS.1 (cC.2 e)])
       clear he;go_wp2_with fail;go_quiet (fail);go_wp2_with fail;go_ret;exact cW.no HN (by rw[jV];exact cr (aV _ _) _)
      ·have e1:(Wv=p2')=False:=bU h2;clear he h2;go_wp2_with fail;go_quiet (fail);go_wp2_with fail;go_ret;exact cW.no HN (by rw[jV];exact cr (aV _ _) _)
     ·have e1:(n1.toList=n2.toList)=False:=bU fun e=>h1 (gS.1 (cC.2 e))
      clear he h1;go_wp2_with fail;go_quiet (fail);go_wp2_with fail;go_ret;exact cW.no HN (by rw[jV];exact cr (aV _ _) _)
   ·have p1:((j:Int)<(xs.length:Int))=False:=bU (by omega);have HN:=aa (I6 HL fun i hx hy=>fO i (by omega) hx hy);go_wp2_with fail;go_ret;exact cW.yes HN (cr (aV _ _) _)
 ·have p1:((xs.length:Int)==(ys.length:Int))=false:=by rw[bN];omega
  have HN:Hid (¬xs=ys):=aa fun e=>hl (by rw[e])
  clear hl;go_enter func68,ntmps68;go_wp2_with fail;go_ret;exact cW.no HN (aV _ _)
theorem oj (h1:cU b1 w v1 xs) (h2:cU b2 w v2 ys) (hn:xs.length≤1099511627776) (hm:ys.length≤1099511627776):
  Calls prog 38 #[v1,v2] w (cW w (xs=ys)):=by
 obtain⟨a1,c1,rfl,jQ⟩:=h1;obtain⟨a2,c2,rfl,kr⟩:=h2;have H1:=aa jQ;have H2:=aa kr;clear jQ kr;by_cases hl:xs.length=ys.length
 ·have HL:=aa hl;rw[←hl]at hm ⊢
  clear hl;go_enter func38,ntmps38;go_wp2_with fail;go_loopw [5] (fun t13 wr=> ∃j q:Nat,Hid (j≤xs.length)∧t13= .int .i64 (j:Int)∧wr=w.drewN q∧Hid (∀i (h:i<j) (hx:i<xs.length) (hy:i<ys.length),xs[i]=ys[i])) (fun t13 _=>xs.length-(intOf t13).toNat)
  case atStart=>exact⟨0,0,aa (dQ _),rfl,rfl,aa fun i h=>absurd h (by omega)⟩
  case round=>
   obtain⟨j,q,hj,rfl,rfl,fO⟩:=hrel;by_cases ax:j<xs.length
   ·have p1:((j:Int)<(xs.length:Int))=True:=aA (by omega);have nZ:j<ys.length:=by rw[←HL.out];exact ax
    obtain⟨g1,o1,rfl,_,_,x1⟩:=H1 j ax;obtain⟨g2,o2,rfl,_,_,x2⟩:=H2 j nZ;generalize hX:xs[j]=x at x1;generalize hY:ys[j]=y at x2;have HX:=aa (show xs[j]=x from hX);have HY:=aa hY;clear hX hY;by_cases he:x=y
    ·have e1:(x.toList==y.toList)=true:=gS.2 he;have HN:Hid (∀i (h:i<j+1) (hx:i<xs.length) (hy:i<ys.length),xs[i]=ys[i]):=aa fun i h hx hy=>by
      by_cases e:i=j
      ·subst e;rw[HX.out,HY.out,he]
      ·exact fO i (by omega) hx hy
     clear he;go_wp2_with fail;go_quiet (fail);go_wp2_with fail;exact⟨⟨j+1,q+nq,aa ax,rfl,rfl,HN⟩,by simp[intOf];omega⟩
    ·have e1:(x.toList==y.toList)=false:=by rw[←yP,gS];exact he
     have HN:Hid (¬xs=ys):=aa fun e=>he (by rw[←HX.out,←HY.out];subst e;rfl)
     clear he;go_wp2_with fail;go_quiet (fail);go_wp2_with fail;go_ret;exact cW.no HN (by rw[jV];exact cr (aV _ _) _)
   ·have p1:((j:Int)<(xs.length:Int))=False:=bU (by omega);have HN:=aa (I6 HL fun i hx hy=>fO i (by omega) hx hy);go_wp2_with fail;go_ret;exact cW.yes HN (cr (aV _ _) _)
 ·have p1:((xs.length:Int)==(ys.length:Int))=false:=by rw[bN];omega
  have HN:Hid (¬xs=ys):=aa fun e=>hl (by rw[e])
  clear hl;go_enter func38,ntmps38;go_wp2_with fail;go_ret;exact cW.no HN (aV _ _)
theorem Hp {xs ys:List PM} (h1:eI b1 w v1 xs) (h2:eI b2 w v2 ys) (hn:xs.length≤1099511627776) (hm:ys.length≤1099511627776):
  Calls prog 37 #[v1,v2] w (cW w (xs=ys)):=by
 obtain⟨a1,c1,rfl,jQ⟩:=h1;obtain⟨a2,c2,rfl,kr⟩:=h2;have H1:=aa jQ;have H2:=aa kr;clear jQ kr;by_cases hl:xs.length=ys.length
 ·have HL:=aa hl;rw[←hl]at hm ⊢
  clear hl;go_enter func37,ntmps37;go_wp2_with fail;go_loopw [5] (fun t13 wr=> ∃j q:Nat,Hid (j≤xs.length)∧t13= .int .i64 (j:Int)∧wr=w.drewN q∧Hid (∀i (h:i<j) (hx:i<xs.length) (hy:i<ys.length),xs[i]=ys[i])) (fun t13 _=>xs.length-(intOf t13).toNat)
  case atStart=>exact⟨0,0,aa (dQ _),rfl,rfl,aa fun i h=>absurd h (by omega)⟩
  case round=>
   obtain⟨j,q,hj,rfl,rfl,fO⟩:=hrel;by_cases ax:j<xs.length
   ·have p1:((j:Int)<(xs.length:Int))=True:=aA (by omega);have nZ:j<ys.length:=by rw[←HL.out];exact ax
    obtain⟨g1,o1,rfl,_,_,x1,x1b,x1c⟩:=H1 j ax;obtain⟨g2,o2,rfl,_,_,x2,x2b,x2c⟩:=H2 j nZ;generalize hX:xs[j]=x at x1 x1b x1c;generalize hY:ys[j]=y at x2 x2b x2c;have HX:=aa (show xs[j]=x from hX);have HY:=aa hY;clear hX hY;by_cases he:x=y
    ·have HN:Hid (∀i (h:i<j+1) (hx:i<xs.length) (hy:i<ys.length),xs[i]=ys[i]):=aa fun i h hx hy=>by
      by_cases e:i=j
      ·subst e;rw[HX.out,HY.out,he]
      ·exact fO i (by omega) hx hy
     subst he;clear HX HY;obtain⟨n1,Wv,v1⟩:=x;simp only at x1 x1b x1c x2 x2b x2c;go_wp2_with fail;go_quiet (fail);go_wp2_with fail;exact⟨⟨j+1,q+nq,aa ax,rfl,rfl,HN⟩,by simp[intOf];omega⟩
    ·have HN:Hid (¬xs=ys):=aa fun e=>he (by rw[←HX.out,←HY.out];subst e;rfl)
     clear HX HY;obtain⟨n1,Wv,v1⟩:=x;obtain⟨n2,p2',v2⟩:=y;simp only at x1 x1b x1c x2 x2b x2c;by_cases h1:n1=n2
     ·subst h1;by_cases h2:Wv=p2'
      ·subst h2;have e1:(v1.toList=v2.toList)=False:=bU fun e=>he (by rw[gS.1 (cC.2 e)])
       clear he;go_wp2_with fail;go_quiet (fail);go_wp2_with fail;go_ret;exact cW.no HN (by rw[jV];exact cr (aV _ _) _)
      ·have e1:(Wv=p2')=False:=bU h2;clear he h2;go_wp2_with fail;go_quiet (fail);go_wp2_with fail;go_ret;exact cW.no HN (by rw[jV];exact cr (aV _ _) _)
     ·have e1:(n1.toList=n2.toList)=False:=bU fun e=>h1 (gS.1 (cC.2 e))
      clear he h1;go_wp2_with fail;go_quiet (fail);go_wp2_with fail;go_ret;exact cW.no HN (by rw[jV];exact cr (aV _ _) _)
   ·have p1:((j:Int)<(xs.length:Int))=False:=bU (by omega);have HN:=aa (I6 HL fun i hx hy=>fO i (by omega) hx hy);go_wp2_with fail;go_ret;exact cW.yes HN (cr (aV _ _) _)
 ·have p1:((xs.length:Int)==(ys.length:Int))=false:=by rw[bN];omega
  have HN:Hid (¬xs=ys):=aa fun e=>hl (by rw[e])
  clear hl;go_enter func37,ntmps37;go_wp2_with fail;go_ret;exact cW.no HN (aV _ _)
