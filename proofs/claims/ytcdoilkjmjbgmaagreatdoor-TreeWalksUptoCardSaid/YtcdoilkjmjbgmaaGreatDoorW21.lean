import Derived.Test.YtcdoilkjmjbgmaaGreatDoorW03
/- Part of the proof of YtcdoilkjmjbgmaaGreatDoorCardX: RcB RcC RaB RaC RaD RaE RaF RaG TrS TsB. -/
set_option maxRecDepth 100000
set_option maxHeartbeats 4000000
set_option linter.unusedVariables false
set_option linter.unusedSimpArgs false
namespace Go.Proofs.YtcdoilkjmjbgmaaGreatDoor
open Go.RowKit
open Go.Proofs.Tryz
variable {u b j n sum rs a x k m i en base size b1 b2:Nat} {l:List UInt8} {w w':World} {c q:UInt8} {s y:ByteArray} {e:TypeId} {v v1 v2:Value} {xs ys:List ByteArray}
theorem Vw (i j:Nat):PD (7,i) j= .tuple #[.int .i64 0,.int .i64 0,.int .i64 0]:=rfl
theorem JN (h:u≠7):PD (u,b) j= .tuple #[.int .i64 ((b-j:Nat):Int),.int .i64 (dc u:Int),.int .i64 ((u+1:Nat):Int)]:=by
 unfold PD;exact af h
theorem Fu (l:List UInt8) (i:Nat) (h:(aJ l i).1≠7):i<(aJ l i).2:=by
 unfold aJ at h ⊢
 split
 ·rename_i h1;rw[ar h1]at h;exact absurd rfl h
 ·rename_i h1;rw[af h1]at h;split
  ·simp
  ·rename_i h2;rw[af h2]at h;split
   ·rename_i h3;rw[ar h3]at h;exact absurd rfl h
   ·simp
theorem uL (s:ByteArray) (w:World) (hs:s.size≤281474976710656):
  Calls prog 110 #[.string s] w fun e w'=>e= .returned (.int .i64 (aW s.data.toList:Nat))∧w=w':=by
 obtain⟨V,hV⟩: ∃V,V=aW s.data.toList:=⟨_,rfl⟩;rw[←hV];have HV:=aa hV;clear hV;go_enter func110,ntmps110;go_wp2_with fail;go_loop [3,4] (fun v x=> ∃f fin next sum:Nat,fin≤s.size∧next≤7∧8≤f+next∧v= .int .i64 fin∧x= .int .i64 next∧Hid ((Ee f s.data.toList fin next sum).1=V)) (fun v _=>s.size-(intOf v).toNat)
 case atStart=>exact⟨8,0,0,0,aT _,by omega,by omega,by go_num,by go_num,aa HV.symm⟩
 case round=>
  obtain⟨f,fin,next,sum,kH,ω,hf,rfl,rfl,hM⟩:=hrel;obtain⟨f,rfl⟩: ∃g,f=g+1:=⟨f-1,by omega⟩;by_cases au:fin<s.size
  ·go_wp2_with fail;refine(OK s fin _ hs (by omega)).mono ?_;rintro e w1 ⟨rfl,rfl⟩;have rj:=aV digit s.data.toList fin;have pP:=bI digit s.data.toList fin (by rw[ab];exact kH);rw[ab]at pP;obtain⟨at',cB⟩: ∃k,k=ae digit s.data.toList fin:=⟨_,rfl⟩;rw[←cB]at rj pP ⊢
   have HA:=aa cB;clear cB;go_wp2_with fail;refine(Jg s at' _ hs (by omega)).mono ?_;rintro e w2 ⟨rfl,rfl⟩;have hU:=jW s.data.toList at';have hG:=Fu s.data.toList at';rw[ab]at hU;obtain⟨u,behind,hu⟩: ∃u b,(u,b)=aJ s.data.toList at':=⟨_,_,rfl⟩;rw[←hu]at hU hG ⊢
   obtain⟨hU1,SG,ZM⟩:=hU;have HU:=aa hu;clear hu;simp only at hU1 SG ZM hG;by_cases h7:u=7
   ·have hE:=(bT Prod.fst (jB (f:=f) (l:=s.data.toList) (fin:=fin) (next:=next) (sum:=sum) (.inr (.inr (by rw[←HA.out,←HU.out];exact h7))))).symm.trans hM;subst h7;rw[Vw];have HE:=aa hE;clear hE hM;go_wp2_with fail
    all_goals (go_ret;exact⟨aE (by rw[←HE.out]),rfl⟩)
   ·rw[JN h7];have hG2:=hG h7;have PN:=SG pP;have hu6:u≤6:=by omega
    have SZ:(((behind-at':Nat):Int)==0)=false:=bK.2 (by omega);have xf:behind-at'≤2814749767106560:=by omega
    clear hG hU1 SG ZM;cases hq:((at':Int)==(fin:Int))
    ·by_cases hr:u<next
     ·have hE:=(bT Prod.fst (jB (f:=f) (l:=s.data.toList) (fin:=fin) (next:=next) (sum:=sum) (.inr (.inl (by rw[←HA.out,←HU.out];exact hr))))).symm.trans hM;have HE:=aa hE;have hrr:((u:Int)+1≤(next:Int))=True:=az (by omega);clear hE hM hr h7;go_wp2_with fail;go_ret;exact⟨aE (by rw[←HE.out]),rfl⟩
     ·have hg:=(bT Prod.fst (L4 (f:=f) (l:=s.data.toList) (fin:=fin) (next:=next) (sum:=sum) HA.symm HU.symm (by have:=kA hq;omega) (by omega) h7)).symm.trans hM;have HG:=aa hg;have hrr:((u:Int)+1≤(next:Int))=False:=bL (by omega);clear hg hM;have hm:fin<behind:=by omega
      go_wp2_with fail;exact⟨⟨f,behind,u+1,_,PN,by omega,by omega,by apply IZ;omega,by go_num,HG⟩,by simp[intOf];omega⟩
    ·have hE:=(bT Prod.fst (jB (f:=f) (l:=s.data.toList) (fin:=fin) (next:=next) (sum:=sum) (.inl (by rw[←HA.out];exact Int.ofNat.inj (js hq))))).symm.trans hM;have HE:=aa hE;clear hE hM h7;go_wp2_with fail;go_ret;exact⟨aE (by rw[←HE.out]),rfl⟩
  ·have hE:=(bT Prod.fst (jB (f:=f) (l:=s.data.toList) (fin:=fin) (next:=next) (sum:=sum) (.inl (bO (by rw[ab];omega))))).symm.trans hM;have HE:=aa hE;clear hE hM;go_wp2_with fail;go_ret;exact⟨aE (by rw[←HE.out]),rfl⟩
theorem Ra (hn:n=sat l) (h:sum=min rs 315360000000001):jz n u sum=min (rs+manyN l (dc u)) 315360000000001:=by
 subst hn;by_cases hb:315360000000000/dc u<sat l
 ·rw[yX hb,manyN,ar hb];omega
 ·rw[yY (by omega),manyN,af hb];omega
theorem Vx (l:List UInt8) (u:Nat):manyN l (dc u)≤315360000000001:=by
 unfold manyN;split
 ·exact aP _
 ·have:=Jd (n:=sat l) (u:=u) (by omega);omega
theorem rS {r:Nat×Nat} (h:r=(a,b)) (hb:w=w'):(Ending.returned (.tuple #[.int .i64 (a:Int),.int .i64 (b:Int)])= .returned (.tuple #[.int .i64 (r.1:Nat),.int .i64 (r.2:Nat)]))∧w=w':=by
 subst h;exact⟨rfl,hb⟩
theorem Dc (s:ByteArray) (w:World) (hs:s.size≤64) (h0:0<s.size) (hm:(measure s.data.toList).1=s.size):
  Calls prog 112 #[.string s] w fun e w'=>e= .returned (.tuple #[.int .i64 ((bu s.data.toList).1:Nat),.int .i64 ((bu s.data.toList).2:Nat)])∧w=w':=by
 obtain⟨r,hr⟩: ∃r,r=bu s.data.toList:=⟨_,rfl⟩;have hR:r=if 315360000000000<(measure s.data.toList).2 then(0,31)else((measure s.data.toList).2,0):=by
  rw[hr,bu,af (by rw[ab];omega),af (by rw[hm,ab];omega)]
 rw[←hr];have HR:=aa hR;have Ib:((aW s.data.toList:Int) != (s.size:Int))=false:=by
  rw[IJ,aW,hm]
 have HM:=aa hm;clear hr hR hm;obtain⟨Ya,XX⟩:=oT h0;go_enter func112,ntmps112;go_wp2_with fail;refine(uL s _ (by omega)).mono ?_;rintro e w1 ⟨rfl,rfl⟩;go_wp2_with fail;clear Ib Ya XX;go_loop [4,5] (fun v x=> ∃f fin next sum rs:Nat,fin≤s.size∧next≤7∧8≤f+next∧rs≤next*315360000000001∧v= .int .i64 rs∧x= .int .i64 fin∧Hid (Ee f s.data.toList fin next sum=measure s.data.toList)∧Hid (sum=min rs 315360000000001)) (fun _ x=>s.size-(intOf x).toNat)
 case atStart=>exact⟨8,0,0,0,0,aT _,by omega,by omega,by omega,by go_num,by go_num,aa rfl,aa (by omega)⟩
 case round=>
  obtain⟨f,fin,next,sum,rs,kH,ω,hf,hrs,rfl,rfl,hM,hS⟩:=hrel;obtain⟨f,rfl⟩: ∃g,f=g+1:=⟨f-1,by omega⟩;have asF:rs≤2207520000000007:=by omega
  by_cases au:fin<s.size
  ·have hgo: ¬(ae digit s.data.toList fin=fin∨(aJ s.data.toList (ae digit s.data.toList fin)).1<next∨(aJ s.data.toList (ae digit s.data.toList fin)).1=7):=by
    intro h;have h1:=jB (f:=f) (sum:=sum) h;rw[hM.out]at h1;have h2:=HM.out;rw[h1]at h2;simp only at h2;omega
   have HGO:=aa hgo;clear hgo;go_wp2_with fail;refine(OK s fin _ (by omega) (by omega)).mono ?_;rintro e w1 ⟨rfl,rfl⟩;have rj:=aV digit s.data.toList fin;have pP:=bI digit s.data.toList fin (by rw[ab];exact kH);rw[ab]at pP;obtain⟨at',cB⟩: ∃k,k=ae digit s.data.toList fin:=⟨_,rfl⟩;rw[←cB]at rj pP HGO ⊢
   have HA:=aa cB;clear cB;go_wp2_with fail;refine(Jg s at' _ (by omega) (by omega)).mono ?_;rintro e w2 ⟨rfl,rfl⟩;have hU:=jW s.data.toList at';have hG:=Fu s.data.toList at';rw[ab]at hU;obtain⟨u,behind,hu⟩: ∃u b,(u,b)=aJ s.data.toList at':=⟨_,_,rfl⟩;rw[←hu]at hU hG HGO ⊢
   obtain⟨hU1,SG,ZM⟩:=hU;have HU:=aa hu;clear hu;simp only at hU1 SG ZM hG;have hgo:=HGO.out;simp only at hgo;clear HGO;have h7:u≠7:=fun h=>hgo (.inr (.inr h))
   rw[JN h7];have hG2:=hG h7;have PN:=SG pP;have hu6:u≤6:=by omega
   have hun:next≤u:=by omega
   have hg:=(L4 (f:=f) (l:=s.data.toList) (fin:=fin) (next:=next) (sum:=sum) HA.symm HU.symm (by omega) hun h7).symm.trans hM;have oE:=yW (s:=s) (i:=fin) HA.symm;have FG:(s.extract fin at').size≤281474976710656:=by simp;omega
   have qX:(s.extract fin at').data.toList=(s.data.toList.drop fin).take (at'-fin):=Lib.extract_data ..;have ZQ:=Ra (u:=u) (sum:=sum) (rs:=rs) (rfl:sat ((s.data.toList.drop fin).take (at'-fin))=_) hS;have hml:=Vx ((s.data.toList.drop fin).take (at'-fin)) u;have hz:=EZ u;have OC:=fun w=>UF (s.extract fin at') (dc u) w FG hz.1 hz.2 oE
   rw[qX]at OC;rw[ZQ]at hg;generalize manyN ((s.data.toList.drop fin).take (at'-fin)) (dc u)=m at OC hg hml;have HG:=aa hg;have HC:=aa OC;clear hG hU1 SG ZM hgo hg ZQ oE FG qX OC hM hS hz HA HU h7;obtain⟨g,afF⟩: ∃g,g=behind-at':=⟨_,rfl⟩;have Lm:behind=at'+g:=by omega
   rw[←afF];clear afF;subst Lm;go_wp2_with fail;refine(HC _).mono ?_;rintro e w2 ⟨rfl,rfl⟩;clear HC;go_wp2_with fail;exact⟨⟨f,at'+g,u+1,_,rs+m,PN,by omega,by omega,by omega,by apply IZ;omega,by apply IZ;omega,HG,aa rfl⟩,by simp[intOf];omega⟩
  ·have hE:=(jB (f:=f) (l:=s.data.toList) (fin:=fin) (next:=next) (sum:=sum) (.inl (bO (by rw[ab];omega)))).symm.trans hM;have hS2:=hS.out;have Hx:=HR.out;rw[←hE]at Hx;simp only at Hx;by_cases hb:315360000000000<rs
   ·rw[ar (by omega)]at Hx;have Ef:=aa Hx;clear hE hM hS hS2 Hx;go_wp2_with fail;go_ret2;exact rS Ef rfl
   ·rw[af (by omega),show sum=rs by omega]at Hx;have Ef:=aa Hx;clear hE hM hS hS2 Hx;go_wp2_with fail;go_ret2;exact rS Ef rfl
theorem Rb (s:ByteArray) (w:World) (hs:s.size≤maxLen):
  Calls prog 112 #[.string s] w fun e w'=>e= .returned (.tuple #[.int .i64 ((bu s.data.toList).1:Nat),.int .i64 ((bu s.data.toList).2:Nat)])∧w=w':=by
 unfold maxLen at hs;by_cases hl:64<s.size
 ·have hE:bu s.data.toList=(0,1):=by rw[bu,ar (by rw[ab];exact hl)]
  have HE:=aa hE;clear hE;go_enter func112,ntmps112;go_wp2_with fail;go_ret2;exact rS HE rfl
 ·by_cases h0:s.size=0
  ·have hb:s=ByteArray.empty:=by
    have:s.data= #[]:=Array.eq_empty_of_size_eq_zero h0;cases s;simp only at this;rw[this];rfl
   have hE:bu s.data.toList=(0,30):=by rw[hb];decide
   have HE:=aa hE;clear hE;subst hb;go_enter func112,ntmps112;go_wp2_with fail;go_ret2;exact rS HE rfl
  ·by_cases hm:(measure s.data.toList).1=s.size
   ·exact Dc s w (by omega) (by omega) hm
   ·have hle:=ky s.data.toList;rw[aW,ab]at hle;have hE:bu s.data.toList=(0,30):=by
     rw[bu,af (by rw[ab];omega),ar (.inr (by rw[ab];omega))]
    have HE:=aa hE;have Ib:((aW s.data.toList:Int) != (s.size:Int))=true:=by
     rw[ju,aW];omega
    obtain⟨Ya,XX⟩:=oT (show 0<s.size by omega);clear hE hm hle;go_enter func112,ntmps112;go_wp2_with fail;refine(uL s _ (by omega)).mono ?_;rintro e w1 ⟨rfl,rfl⟩;go_wp2_with fail;go_ret2;exact rS HE rfl
theorem Aj (s:ByteArray) (i:Nat) (w:World) (hi:s.size≤i):
  Calls prog 114 #[.string s,.int .i64 (i:Int)] w fun e w'=>e= .returned (.tuple #[.int .i64 0,.int .i64 10])∧w=w':=by
 go_enter func114,ntmps114;go_wp2_with fail;go_ret2;exact⟨rfl,rfl⟩
theorem Dd (s:ByteArray) (i:Nat) (w:World) (hi:i<s.size) (h1:s[i].toNat<34∨34<s[i].toNat) (h2:s[i].toNat<39∨39<s[i].toNat) (h3:s[i].toNat<96∨96<s[i].toNat):
  Calls prog 114 #[.string s,.int .i64 (i:Int)] w fun e w'=>e= .returned (.tuple #[.int .i64 0,.int .i64 10])∧w=w':=by
 have b1:((s[i].toNat:Int) != 34)=true:=by rw[ju];omega
 have b2:((s[i].toNat:Int) != 39)=true:=by rw[ju];omega
 have b3:((s[i].toNat:Int) != 96)=true:=by rw[ju];omega
 clear h1 h2 h3;go_enter func114,ntmps114;go_wp2_with fail;go_ret2;exact⟨rfl,rfl⟩
theorem Ak (s:ByteArray) (i:Nat) (w:World) (hs:s.size≤281474976710656) (hi:i<s.size) (T:Option Nat) (hT:eZ s s[i] T (i+1)) (hq:s[i]=96)
  (aU:((s[i].toNat:Int) != 34)=true) (aM:((s[i].toNat:Int) != 39)=true) (cr:((s[i].toNat:Int) != 96)=false):
  Calls prog 114 #[.string s,.int .i64 (i:Int)] w fun e w'=>e= .returned (.tuple #[.int .i64 (jL T),.int .i64 (oc 10 T)])∧w=w':=by
 have ti:decide ((i:Int)<0)=false:=by simp
 have hi1:decide (s.size≤i)=false:=by simpa using hi
 have xa:decide ((s.size:Int)≤(i:Int))=false:=by simpa using hi
 have HT:=aa hT;have HQ:=aa hq;clear hT hq
 all_goals
  go_enter func114,ntmps114;go_wp2_with fail;go_loop [7] (fun t=> ∃k:Nat,k≤s.size+1∧t= .int .i64 k∧eZ s s[i] T k) (fun t=>s.size+1-(intOf t).toNat)
  case atStart=>exact⟨i+1,by omega,by go_num,HT.out⟩
  case round=>
   obtain⟨k,hk,rfl,hrel⟩:=hrel;clear HT;have HR:=aa hrel;clear hrel;by_cases au:k<s.size
   ·cases h1:((s[k].toNat:Int)==(s[i].toNat:Int))
    ·go_wp2_with fail;go_round
     case rel=>exact⟨k+1,by omega,by go_num,OI HR.out HQ.out au (La h1)⟩
     case measure=>simp[intOf];omega
    ·go_wp2_with fail;go_ret2;exact⟨iS (Av HR.out au (u8T h1)) (by simp[jL]) rfl,rfl⟩
   ·go_wp2_with fail;go_ret2;exact⟨iS (Au HR.out (by omega)) rfl rfl,rfl⟩
theorem qQ (s:ByteArray) (i:Nat) (w:World) (hs:s.size≤281474976710656) (hi:i<s.size) (T:Option Nat) (hT:eZ s s[i] T (i+1)) (hq:s[i]≠96)
  (b1 b2:Bool) (aU:((s[i].toNat:Int) != 34)=b1) (aM:((s[i].toNat:Int) != 39)=b2) (fa:((s[i].toNat:Int) != 96)=true) (yp:(b1&&b2)=false):
  Calls prog 114 #[.string s,.int .i64 (i:Int)] w fun e w'=>e= .returned (.tuple #[.int .i64 (jL T),.int .i64 (oc 10 T)])∧w=w':=by
 have ti:decide ((i:Int)<0)=false:=by simp
 have hi1:decide (s.size≤i)=false:=by simpa using hi
 have xa:decide ((s.size:Int)≤(i:Int))=false:=by simpa using hi
 have HT:=aa hT;have HQ:=aa hq;clear hT hq;cases b1<;>cases b2<;>first|(simp at yp;done)|skip
 all_goals
  clear yp;go_enter func114,ntmps114;go_wp2_with fail;go_loop [7] (fun t=> ∃k:Nat,k≤s.size+1∧t= .int .i64 k∧eZ s s[i] T k) (fun t=>s.size+1-(intOf t).toNat)
  case atStart=>exact⟨i+1,by omega,by go_num,HT.out⟩
  case round=>
   obtain⟨k,hk,rfl,hrel⟩:=hrel;clear HT;have HR:=aa hrel;clear hrel;by_cases au:k<s.size
   ·cases h1:((s[k].toNat:Int)==(s[i].toNat:Int))
    ·cases h2:((s[k].toNat:Int)==10)
     ·cases h3:((s[k].toNat:Int)==92)
      ·go_wp2_with fail;go_round
       case rel=>exact⟨k+1,by omega,by go_num,ET HR.out HQ.out au (La h1) (pO (n:=10) (by omega) rfl h2) (pO (n:=92) (by omega) rfl h3)⟩
       case measure=>simp[intOf];omega
      ·by_cases oe:k+1<s.size
       ·cases h4:((s[k+1].toNat:Int)==10)
        ·go_wp2_with fail;go_round
         case rel=>first|exact⟨k+2,by omega,by go_num,Aw HR.out HQ.out oe (La h1) (oD (n:=92) (by omega) rfl h3) (pO (n:=10) (by omega) rfl h4)⟩|((repeat apply Exists.intro);exact⟨⟨k+2,by omega,by go_num,Aw HR.out HQ.out oe (La h1) (oD (n:=92) (by omega) rfl h3) (pO (n:=10) (by omega) rfl h4)⟩,rfl⟩)
         case measure=>simp[intOf];omega
        ·go_wp2_with fail;go_ret2;exact⟨iS (B7 HR.out HQ.out oe (La h1) (oD (n:=92) (by omega) rfl h3) (oD (n:=10) (by omega) rfl h4)) rfl rfl,rfl⟩
       ·go_wp2_with fail;go_round
        case rel=>first|exact⟨k+2,by omega,by go_num,nK HR.out (by omega) (La h1)⟩|((repeat apply Exists.intro);exact⟨⟨k+2,by omega,by go_num,nK HR.out (by omega) (La h1)⟩,rfl⟩)
        case measure=>simp[intOf];omega
     ·go_wp2_with fail;go_ret2;exact⟨iS (T0 HR.out HQ.out au (La h1) (oD (n:=10) (by omega) rfl h2)) rfl rfl,rfl⟩
    ·go_wp2_with fail;go_ret2;exact⟨iS (Av HR.out au (u8T h1)) (by simp[jL]) rfl,rfl⟩
   ·go_wp2_with fail;go_ret2;exact⟨iS (Au HR.out (by omega)) rfl rfl,rfl⟩
theorem kY (s:ByteArray) (i:Nat) (w:World) (hs:s.size≤281474976710656):
  Calls prog 114 #[.string s,.int .i64 (i:Int)] w fun e w'=>e= .returned (.tuple #[.int .i64 (jL (bz s.data.toList i)),.int .i64 (oc 10 (bz s.data.toList i))])∧w=w':=by
 by_cases hi:i<s.size
 ·have SD:i<s.data.toList.length:=by rw[ab];exact hi
  have cB:=aq hi;by_cases hq:dB s[i]=true
  ·have hT:eZ s s[i] (bz s.data.toList i) (i+1):=by
    refine⟨by omega,?_⟩;rw[bz,ar ⟨SD,by rw[cB];exact hq⟩,cB];rfl
   by_cases SE:s[i]=96
   ·have e:s[i].toNat=96:=by rw[SE];rfl
    exact Ak s i w hs hi _ hT SE (by rw[ju];omega) (by rw[ju];omega) (by rw[e];rfl)
   ·have e:s[i].toNat=34∨s[i].toNat=39:=by
     simp only[dB,tD,cn]at hq;rcases hq with(h|h)|h
     ·left;rw[h];rfl
     ·right;rw[h];rfl
     ·exact absurd h SE
    rcases e with e|e
    ·exact qQ s i w hs hi _ hT SE false true (by rw[e];rfl) (by rw[e];rfl) (by rw[e];rfl) rfl
    ·exact qQ s i w hs hi _ hT SE true false (by rw[e];rfl) (by rw[e];rfl) (by rw[e];rfl) rfl
  ·have hT:bz s.data.toList i=none:=by rw[bz,af];rw[cB];exact fun h=>hq h.2
   rw[hT];have h1:s[i].toNat≠34:=fun e=>hq (by simp[dB,cD (n:=34) (by omega) e])
   have h2:s[i].toNat≠39:=fun e=>hq (by simp[dB,cD (n:=39) (by omega) e])
   have h3:s[i].toNat≠96:=fun e=>hq (by simp[dB,cD (n:=96) (by omega) e])
   exact Dd s i w hi (by omega) (by omega) (by omega)
 ·have hT:bz s.data.toList i=none:=by rw[bz,af];rw[ab];exact fun h=>hi h.1
  rw[hT];exact Aj s i w (by omega)
theorem xY (c:UInt8) (w:World):
  Calls prog 154 #[.int .u8 (c.toNat:Int)] w fun e w'=>e= .returned (.int .i64 (nc c))∧w=w':=by
 by_cases h1:48≤c.toNat∧c.toNat≤57
 ·have hf:=aa (show nc c=(c.toNat:Int)-48 by rw[nc,eY,ar h1];simp;omega);obtain⟨h1,h2⟩:=h1;go_enter func154,ntmps154;go_wp2_with fail;go_ret;exact⟨aE (by rw[hf.out]),rfl⟩
 ·by_cases h2:97≤c.toNat∧c.toNat≤102
  ·have hf:=aa (show nc c=(c.toNat:Int)-97+10 by rw[nc,eY,af h1,ar h2];simp;omega);obtain⟨h2,h3⟩:=h2;clear h1;go_enter func154,ntmps154;go_wp2_with fail;go_ret;exact⟨aE (by rw[hf.out]),rfl⟩
  ·by_cases h3:65≤c.toNat∧c.toNat≤70
   ·have hf:=aa (show nc c=(c.toNat:Int)-65+10 by rw[nc,eY,af h1,af h2,ar h3];simp;omega);obtain⟨h3,h4⟩:=h3;clear h1 h2;go_enter func154,ntmps154;go_wp2_with fail;go_ret;exact⟨aE (by rw[hf.out]),rfl⟩
   ·have hf:=aa (show nc c= -1 by rw[nc,eY,af h1,af h2,af h3]);have hc:c.toNat<48∨(57<c.toNat∧c.toNat<65)∨(70<c.toNat∧c.toNat<97)∨102<c.toNat:=by omega
    clear h1 h2 h3;rcases hc with h|⟨h,h'⟩|⟨h,h'⟩|h
    all_goals
     go_enter func154,ntmps154;go_wp2_with fail;go_ret;exact⟨aE (by rw[hf.out]),rfl⟩
theorem Bu (w:World) (a:Int) (c:UInt8) (h:a=(c.toNat:Int)):
  (convert 147 9 (.slice (some ⟨w.heap.size,0,none⟩) 1 1)).run prog (w.alloc (.cells #[.int .u8 a] 5))= .ok (.string ⟨#[c]⟩) (w.alloc (.cells #[.int .u8 a] 5)):=by
 subst h;have ho:(w.alloc (.cells #[.int .u8 (c.toNat:Int)] 5)).ownsRow w.heap.size 5 1 (.slice (some ⟨w.heap.size,0,none⟩) 1 1) 1 (cellsOf [c]):=yz (e:=5) (size:=1) w #[.int .u8 (c.toNat:Int)] 1 (aP _) (by unfold maxLen;omega) rfl;exact dV (P:=prog) ho 147 9 underlying147 underlying5 underlying9
theorem acz (w:World) (a b:Int) (c d:UInt8) (h:a=(c.toNat:Int)) (h2:b=(d.toNat:Int)):
  (convert 147 9 (.slice (some ⟨w.heap.size,0,none⟩) 2 2)).run prog (w.alloc (.cells #[.int .u8 a,.int .u8 b] 5))= .ok (.string ⟨#[c,d]⟩) (w.alloc (.cells #[.int .u8 a,.int .u8 b] 5)):=by
 subst h h2;have ho:(w.alloc (.cells #[.int .u8 (c.toNat:Int),.int .u8 (d.toNat:Int)] 5)).ownsRow w.heap.size 5 1 (.slice (some ⟨w.heap.size,0,none⟩) 2 2) 2 (cellsOf [c,d]):=yz (e:=5) (size:=1) w #[.int .u8 (c.toNat:Int),.int .u8 (d.toNat:Int)] 2 (aP _) (by unfold maxLen;omega) rfl;exact dV (P:=prog) ho 147 9 underlying147 underlying5 underlying9
theorem acA (w:World) (a b x:Int) (c d e:UInt8) (h:a=(c.toNat:Int)) (h2:b=(d.toNat:Int)) (h3:x=(e.toNat:Int)):
  (convert 147 9 (.slice (some ⟨w.heap.size,0,none⟩) 3 3)).run prog (w.alloc (.cells #[.int .u8 a,.int .u8 b,.int .u8 x] 5))= .ok (.string ⟨#[c,d,e]⟩) (w.alloc (.cells #[.int .u8 a,.int .u8 b,.int .u8 x] 5)):=by
 subst h h2 h3;have ho:(w.alloc (.cells #[.int .u8 (c.toNat:Int),.int .u8 (d.toNat:Int),.int .u8 (e.toNat:Int)] 5)).ownsRow w.heap.size 5 1 (.slice (some ⟨w.heap.size,0,none⟩) 3 3) 3 (cellsOf [c,d,e]):=yz (e:=5) (size:=1) w #[.int .u8 (c.toNat:Int),.int .u8 (d.toNat:Int),.int .u8 (e.toNat:Int)] 3 (aP _) (by unfold maxLen;omega) rfl;exact dV (P:=prog) ho 147 9 underlying147 underlying5 underlying9
theorem acB (w:World) (a b x y:Int) (c d e f:UInt8) (h:a=(c.toNat:Int)) (h2:b=(d.toNat:Int)) (h3:x=(e.toNat:Int)) (h4:y=(f.toNat:Int)):
  (convert 147 9 (.slice (some ⟨w.heap.size,0,none⟩) 4 4)).run prog (w.alloc (.cells #[.int .u8 a,.int .u8 b,.int .u8 x,.int .u8 y] 5))= .ok (.string ⟨#[c,d,e,f]⟩) (w.alloc (.cells #[.int .u8 a,.int .u8 b,.int .u8 x,.int .u8 y] 5)):=by
 subst h h2 h3 h4;have ho:(w.alloc (.cells #[.int .u8 (c.toNat:Int),.int .u8 (d.toNat:Int),.int .u8 (e.toNat:Int),.int .u8 (f.toNat:Int)] 5)).ownsRow w.heap.size 5 1 (.slice (some ⟨w.heap.size,0,none⟩) 4 4) 4 (cellsOf [c,d,e,f]):=yz (e:=5) (size:=1) w #[.int .u8 (c.toNat:Int),.int .u8 (d.toNat:Int),.int .u8 (e.toNat:Int),.int .u8 (f.toNat:Int)] 4 (aP _) (by unfold maxLen;omega) rfl;exact dV (P:=prog) ho 147 9 underlying147 underlying5 underlying9
theorem lu (h:x<256):((UInt8.ofNat x).toNat:Int)=(x:Int):=by
 simp;omega
def zZ (o:Option Nat):Int:=match o with|some v=>v|none=> -1
theorem Ni (s:ByteArray) (i k base en:Nat) (w:World) (hs:s.size≤281474976710656) (hi:i≤281474976710657) (lC:1≤k) (hk:k≤8) (tz:en≤s.size) (cU:base=8∨base=16):
  Calls prog 144 #[.string s,.int .i64 (i:Int),.int .i64 (k:Int),.int .i64 (base:Int),.int .i64 (en:Int)] w fun e w'=>e= .returned (.int .i64 (zZ (fe ((s.data.toList.take en).drop i) k base)))∧w=w':=by
 obtain⟨V,hV⟩: ∃V,V=zZ (fe ((s.data.toList.take en).drop i) k base):=⟨_,rfl⟩;rw[←hV];have hlen:((s.data.toList.take en).drop i).length=en-i:=by rw[mY,nZ,ab,mr tz]
 by_cases ho:en<i+k
 ·have hT:V= -1:=by
   rw[hV,fe,ar (by rw[hlen];omega)];rfl
  have HT:=aa hT;clear hV hT hlen cU;go_enter func144,ntmps144;go_wp2_with fail;go_ret;exact⟨aE HT.out.symm,rfl⟩
 ·obtain⟨D,hD⟩: ∃D,D=((s.data.toList.take en).drop i).take k:=⟨_,rfl⟩;have hDl:D.length=k:=by rw[hD,nZ,hlen];omega
  have Ly: ∀j,j<k→i+j<s.size:=fun j h=>by omega
  have hDE:D.drop k=[]:=s9 (by omega);have afG: ∀j (h:j<k),D.drop j=s[i+j]'(Ly j h)::D.drop (j+1):=by
   intro j h;rw[nV (by rw[hDl];exact h)]
   congr 1
   subst hD;simp only[IL,vs];exact gl _ _ _
  have hR:fe ((s.data.toList.take en).drop i) k base=fy base 0 D:=by
   rw[fe,af (by rw[hlen];omega),hD]
  rw[hR]at hV;generalize kC:fy base 0 D=R at hV;have HV:=aa hV;have HT:=aa kC;have HD:=aa afG;have At:=aa hDE;clear hV kC afG hR hDl hD hlen hDE;rcases cU with rfl|rfl
  all_goals
   go_enter func144,ntmps144;go_wp2_with fail;go_loop [11,12] (fun n x=> ∃j v:Nat,j≤k∧x= .int .i64 j∧n= .int .i64 v∧v≤4294967295∧Hid (v<16^j)∧Hid (fy _ v (D.drop j)=R)) (fun _ x=>k-(intOf x).toNat)
   case atStart=>exact⟨0,0,aT _,rfl,rfl,by omega,aa (by simp),HT.out⟩
   case round=>
    obtain⟨j,v,hj,rfl,rfl,hv,aby,hT⟩:=hrel;clear HT;by_cases au:j<k
    ·have XC:i+j<s.size:=by omega
     have kC:=hT.out;rw[HD.out j au,fy]at kC;clear hT;cases hd:eY s[i+j]with
     |none=>
      have ua:=EX hd;rw[hd]at kC;have HT:=aa kC;clear kC hd;go_wp2_with (go_at_call 154;refine(xY _ _).mono ?_;rintro e w' ⟨rfl,rfl⟩;rw[ua]);go_ret;exact⟨aE (by rw[HV.out,←HT.out];rfl),rfl⟩
     |some d=>
      have ua:=EW hd;have akk:=EY hd;rw[hd]at kC;simp only at kC;clear hd;split at kC
      ·rename_i SC;have HT:=aa kC;have hp:=aby.out;have Ap:(16:Nat)^(j+1)=16^j*16:=ef ..;have Xt:(16:Nat)^(j+1)≤16^8:=ee (by omega) (by omega);have hq:(v*16+d)<16^(j+1):=by rw[Ap];omega
       have tY:(v*8+d)<16^(j+1):=by omega
       have Z7:v*16+d≤4294967295:=by
        have:(16:Nat)^8=4294967296:=by decide
        omega
       have HQ:=aa hq;have HQ2:=aa tY;clear kC hp Ap Xt hq tY aby;go_wp2_with (go_at_call 154;refine(xY _ _).mono ?_;rintro e w' ⟨rfl,rfl⟩;rw[ua]);refine⟨⟨trivial,?_⟩,?_⟩
       ·(repeat apply Exists.intro)
        first
         |exact⟨⟨j+1,_,by omega,by go_num,by go_num,by omega,HQ.out,HT.out⟩,rfl⟩
         |exact⟨⟨j+1,_,by omega,by go_num,by go_num,by omega,HQ2.out,HT.out⟩,rfl⟩
       ·simp[intOf];omega
      ·rename_i SC;have HT:=aa kC;clear kC;go_wp2_with (go_at_call 154;refine(xY _ _).mono ?_;rintro e w' ⟨rfl,rfl⟩;rw[ua])
       all_goals (go_ret;exact⟨aE (by rw[HV.out,←HT.out];rfl),rfl⟩)
    ·have hjk:j=k:=by omega
     have kC:=hT.out;rw[hjk,At.out,fy]at kC;have HT:=aa kC;clear hT kC aby;go_wp2_with fail;go_ret;exact⟨aE (by rw[HV.out,←HT.out];rfl),rfl⟩
set_option maxRecDepth 1000000 in
theorem jd (n:Int) (w:World):
  Calls prog 108 #[.int .i64 n] w fun e w'=>e= .returned (.bool (decide (0≤n)&&ba n.toNat))∧w=w':=by
 go_enter func108,ntmps108;go_wp2
 all_goals (go_ret;exact⟨ah (by rw[eE];simp[ba];omega),rfl⟩)
theorem JO (n:Int) (w:World):
  Calls prog 91 #[.int .i64 n] w fun e w'=>e= .returned (.string ⟨(gu n).toArray⟩)∧Below w.heap.size w w':=by
 obtain⟨b,hb⟩: ∃b,b=(decide (0≤n)&&ba n.toNat):=⟨_,rfl⟩;cases b
 ·have hE:gu n=[]:=by
   rw[gu,af];rintro⟨h1,h2⟩;rw[h2,dQ h1]at hb;cases hb
  have HE:=aa hE;have HB:=aa hb;clear hE hb;go_enter func91,ntmps91;go_wp2_with fail;refine(jd _ _).mono ?_;rintro e w' ⟨rfl,rfl⟩;rw[←HB.out];go_wp2_with fail;go_ret;exact⟨by rw[HE.out];rfl,aS _ _⟩
 ·have aM:=hb.symm;rw[kF,uk]at aM;obtain⟨m,rfl⟩: ∃m:Nat,n=m:=⟨n.toNat,by omega⟩;have hE:gu (m:Int)=fO m:=by rw[gu,ar aM,mq]
  have hle:m≤1114111:=by have:=uA aM.2;simpa using this
  rw[hE];have HB:=aa hb;clear hb aM hE;by_cases h1:m<128
  ·obtain⟨c1,lX⟩: ∃c,c=UInt8.ofNat (m):=⟨_,rfl⟩;have hF:fO m=[c1]:=by rw[fO,ar h1,lX]
   have HF:=aa hF;have LU:=Bu w (m:Int) c1 (by have:=lu (x:=m) (by omega);rw[lX];omega);have bN:=(aS w.heap.size w).alloc (aP _) (.cells #[.int .u8 (m:Int)] 5);have bD:=aa bN;have x1:(m:Int)<128:=by omega
   clear hF bN lX h1;go_enter func91,ntmps91;go_wp2_with fail;refine(jd _ _).mono ?_;rintro e w' ⟨rfl,rfl⟩;rw[←HB.out];go_wp2_with fail;go_ret;exact⟨by rw[HF.out];rfl,bD.out⟩
  ·by_cases h2:m<2048
   ·obtain⟨c1,lX⟩: ∃c,c=UInt8.ofNat (192+m/64):=⟨_,rfl⟩;obtain⟨c2,ng⟩: ∃c,c=UInt8.ofNat (128+m%64):=⟨_,rfl⟩;have hF:fO m=[c1,c2]:=by rw[fO,af h1,ar h2,lX,ng]
    have HF:=aa hF;have LU:=acz w (192+(m:Int)/64) (128+(m:Int)%64) c1 c2 (by have:=lu (x:=192+m/64) (by omega);rw[lX];omega) (by have:=lu (x:=128+m%64) (by omega);rw[ng];omega);have bN:=(aS w.heap.size w).alloc (aP _) (.cells #[.int .u8 (192+(m:Int)/64),.int .u8 (128+(m:Int)%64)] 5);have bD:=aa bN;have x1:128≤(m:Int):=by omega
    have x2:(m:Int)<2048:=by omega
    clear hF bN lX ng h1 h2;go_enter func91,ntmps91;go_wp2_with fail;refine(jd _ _).mono ?_;rintro e w' ⟨rfl,rfl⟩;rw[←HB.out];go_wp2_with fail;go_ret;exact⟨by rw[HF.out];rfl,bD.out⟩
   ·by_cases h3:m<65536
    ·obtain⟨c1,lX⟩: ∃c,c=UInt8.ofNat (224+m/4096):=⟨_,rfl⟩;obtain⟨c2,ng⟩: ∃c,c=UInt8.ofNat (128+m/64%64):=⟨_,rfl⟩;obtain⟨c3,Se⟩: ∃c,c=UInt8.ofNat (128+m%64):=⟨_,rfl⟩;have hF:fO m=[c1,c2,c3]:=by rw[fO,af h1,af h2,ar h3,lX,ng,Se]
     have HF:=aa hF;have LU:=acA w (224+(m:Int)/4096) (128+(m:Int)/64%64) (128+(m:Int)%64) c1 c2 c3 (by have:=lu (x:=224+m/4096) (by omega);rw[lX];omega) (by have:=lu (x:=128+m/64%64) (by omega);rw[ng];omega) (by have:=lu (x:=128+m%64) (by omega);rw[Se];omega);have bN:=(aS w.heap.size w).alloc (aP _) (.cells #[.int .u8 (224+(m:Int)/4096),.int .u8 (128+(m:Int)/64%64),.int .u8 (128+(m:Int)%64)] 5);have bD:=aa bN;have x1:2048≤(m:Int):=by omega
     have x2:(m:Int)≤65535:=by omega
     have ht:((m:Int)<65536)=True:=az (by omega);clear hF bN lX ng Se h1 h2 h3;go_enter func91,ntmps91;go_wp2_with fail;refine(jd _ _).mono ?_;rintro e w' ⟨rfl,rfl⟩;rw[←HB.out];go_wp2_with fail;go_ret;exact⟨by rw[HF.out];rfl,bD.out⟩
    ·obtain⟨c1,lX⟩: ∃c,c=UInt8.ofNat (240+m/262144):=⟨_,rfl⟩;obtain⟨c2,ng⟩: ∃c,c=UInt8.ofNat (128+m/4096%64):=⟨_,rfl⟩;obtain⟨c3,Se⟩: ∃c,c=UInt8.ofNat (128+m/64%64):=⟨_,rfl⟩;obtain⟨c4,hc4⟩: ∃c,c=UInt8.ofNat (128+m%64):=⟨_,rfl⟩;have hF:fO m=[c1,c2,c3,c4]:=by rw[fO,af h1,af h2,af h3,lX,ng,Se,hc4]
     have HF:=aa hF;have LU:=acB w (240+(m:Int)/262144) (128+(m:Int)/4096%64) (128+(m:Int)/64%64) (128+(m:Int)%64) c1 c2 c3 c4 (by have:=lu (x:=240+m/262144) (by omega);rw[lX];omega) (by have:=lu (x:=128+m/4096%64) (by omega);rw[ng];omega) (by have:=lu (x:=128+m/64%64) (by omega);rw[Se];omega) (by have:=lu (x:=128+m%64) (by omega);rw[hc4];omega);have bN:=(aS w.heap.size w).alloc (aP _) (.cells #[.int .u8 (240+(m:Int)/262144),.int .u8 (128+(m:Int)/4096%64),.int .u8 (128+(m:Int)/64%64),.int .u8 (128+(m:Int)%64)] 5);have bD:=aa bN;have x1:65535<(m:Int):=by omega
     have ht:((m:Int)<65536)=False:=bL (by omega);clear hF bN lX ng Se hc4 h1 h2 h3;go_enter func91,ntmps91;go_wp2_with fail;refine(jd _ _).mono ?_;rintro e w' ⟨rfl,rfl⟩;rw[←HB.out];go_wp2_with fail;go_ret;exact⟨by rw[HF.out];rfl,bD.out⟩
theorem Rc (s:ByteArray) (i v:Nat) (w:World) (hs:s.size≤281474976710656) (h1:1≤v) (h4:v≤4) (hi:i+v≤s.size):
  Calls prog 90 #[.string s,.int .i64 (i:Int),.int .i64 (v:Int)] w fun e w'=>e= .returned (.int .i64 (jQ s.data.toList i v))∧w=w':=by
 have cB:=aq (s:=s) (i:=i) (by omega);have hc:(s[i]'(by omega)).toNat<256:=mz _;obtain⟨V,hV⟩: ∃V,V=jQ s.data.toList i v:=⟨_,rfl⟩;rw[←hV];rw[jQ,cB]at hV;by_cases SS:v=1
 ·subst SS;have hV2:V=((s[i]'(by omega)).toNat:Int):=by rw[hV];simp[gP,F0]
  have HV:=aa hV2;clear hV hV2 cB;go_enter func90,ntmps90;go_wp2_with fail;go_ret;exact⟨aE HV.out.symm,rfl⟩
 ·have hgb:=UG s.data.toList i (((s[i]'(by omega)).toNat:Int)-F0 v) (by unfold F0;(repeat' split)<;>omega);have hv:v=2∨v=3∨v=4:=by omega
  obtain⟨b3,b4,O,e3,e4,hO,agR⟩: ∃(b3 b4:Bool) (O:Int),((v:Int)==3)=b3∧((v:Int)==4)=b4∧F0 v=O∧((b3=false∧b4=false∧O=192)∨(b3=true∧b4=false∧O=224)∨(b3=false∧b4=true∧O=240)):=
   ⟨_,_,_,rfl,rfl,rfl,by rcases hv with rfl|rfl|rfl<;>decide⟩
  rw[hO]at hV hgb;have e1:((v:Int)==1)=false:=bK.2 (by omega);have his: ∀j,j+1<v→i+(j+1)<s.size:=fun j h=>by omega
  have HI:=aa his;have abz:i<s.size:=by omega
  clear cB hv hO his;obtain⟨N0,sZ⟩: ∃N0,N0=((s[i]'abz).toNat:Int)-O:=⟨_,rfl⟩;rw[←sZ]at hV hgb;have HN:=aa sZ;have HG:=aa hgb;have HV:=aa hV;clear hV hgb sZ;rcases agR with⟨rfl,rfl,rfl⟩|⟨rfl,rfl,rfl⟩|⟨rfl,rfl,rfl⟩
  all_goals
   go_enter func90,ntmps90;go_wp2_with fail;go_loop [8,9] (fun n x=> ∃(j:Nat) (y:Int),j+1≤v∧x= .int .i64 ((j:Int)+1)∧n= .int .i64 y∧ -100000000≤y∧y≤100000000∧Hid (y=gP s.data.toList i N0 j)) (fun _ x=>v-(intOf x).toNat)
   case atStart=>
    have h0:=HG.out 0 (by omega);have hN1:=HN.out;rw[gP]at h0;exact⟨0,N0,by omega,rfl,by rw[hN1],h0.1,h0.2,aa rfl⟩
   case round=>
    obtain⟨j,y,hj,rfl,rfl,hy1,hy2,hY⟩:=hrel;by_cases au:j+1<v
    ·have afH:=HI.out j au;have hb:(s[i+(j+1)]).toNat<256:=mz _;have cA:=HG.out (j+1) (by omega);rw[gP,←hY.out,aq afH]at cA;have Yc:Hid (y*64+((s[i+(j+1)]).toNat:Int)-128=gP s.data.toList i N0 (j+1)):=aa (by rw[gP,←hY.out,aq afH]);have HS:=aa cA;clear cA hY;go_wp2_with fail;exact⟨⟨j+1,_,by omega,by go_num,rfl,HS.out.1,HS.out.2,Yc⟩,by simp[intOf];omega⟩
    ·have hE:V=y:=by rw[HV.out,hY.out,show v-1=j by omega]
     have HE:=aa hE;clear hE hY;go_wp2_with fail;go_ret;exact⟨aE HE.out.symm,rfl⟩
def AZ (c:UInt8):Int:=if ew c=true then((ln c).toNat:Int)else-1
def et (j:Nat):Nat:=match j with|0=>97|1=>98|2=>116|3=>110|4=>118|5=>102|_=>114
theorem mP: ∀c:UInt8,∀k:Fin 7,c.toNat=et k.val→AZ c=(k.val:Int)+7:=
 Ch (P:=fun c=> ∀k:Fin 7,c.toNat=et k.val→AZ c=(k.val:Int)+7) (by decide+kernel)
theorem Rd: ∀c:UInt8,(∀k:Fin 7,c.toNat≠et k.val)→AZ c= -1:=
 Ch (P:=fun c=>(∀k:Fin 7,c.toNat≠et k.val)→AZ c= -1) (by decide+kernel)
theorem mQ (h: ∀j,j<k→c.toNat≠et j) (hm:et k=m) (hq:((m:Int)==(c.toNat:Int))=false): ∀j,j<k+1→c.toNat≠et j:=by
 intro j hj;by_cases hjk:j<k
 ·exact h j hjk
 ·have:j=k:=by omega
  subst this;have:=bK.1 hq;omega
theorem Zj: ∀k:Fin 7,(((⟨#[97,7,98,8,116,9,110,10,118,11,102,12,114,13]⟩:ByteArray)[2*k.val]'(by have:=k.isLt;simp[ByteArray.size];omega)).toNat:Int)=et k.val:=by decide
theorem Zk: ∀k:Fin 7,(((⟨#[97,7,98,8,116,9,110,10,118,11,102,12,114,13]⟩:ByteArray)[2*k.val+1]'(by have:=k.isLt;simp[ByteArray.size];omega)).toNat:Int)=(k.val:Int)+7:=by decide
theorem im (c:UInt8) (w:World):
  Calls prog 143 #[.int .u8 (c.toNat:Int),.string ⟨#[97,7,98,8,116,9,110,10,118,11,102,12,114,13]⟩] w fun e w'=>e= .returned (.int .i64 (AZ c))∧w=w':=by
 obtain⟨s,hs⟩: ∃s:ByteArray,s=⟨#[97,7,98,8,116,9,110,10,118,11,102,12,114,13]⟩:=⟨_,rfl⟩;rw[←hs];have jf:s.size=14:=by rw[hs];rfl
 have he: ∀k:Fin 7,((s[2*k.val]'(by omega)).toNat:Int)=et k.val:=by
  subst hs;exact Zj
 have hv: ∀k:Fin 7,((s[2*k.val+1]'(by omega)).toNat:Int)=(k.val:Int)+7:=by
  subst hs;exact Zk
 have HE:=aa he;have HV:=aa hv;clear hs he hv;go_enter func143,ntmps143;go_wp2_with fail;go_loop [5] (fun t=> ∃k:Nat,k≤7∧t= .int .i64 ((2*k:Nat):Int)∧Hid (∀j,j<k→c.toNat≠et j)) (fun t=>14-(intOf t).toNat)
 case atStart=>exact⟨0,by omega,rfl,aa (fun j hj=>absurd hj (by omega))⟩
 case round=>
  obtain⟨k,hk,rfl,fE⟩:=hrel;have ox:k=0∨k=1∨k=2∨k=3∨k=4∨k=5∨k=6∨k=7:=by omega
  clear hk;rcases ox with rfl|rfl|rfl|rfl|rfl|rfl|rfl|rfl
  ·have he:=HE ⟨0,by omega⟩;have hv:=HV ⟨0,by omega⟩;simp only[et,Nat.reduceMul,Nat.reduceAdd]at he hv;cases hq:((97:Int)==(c.toNat:Int))
   ·have HM:=aa (mQ fE (m:=97) rfl hq);clear fE;go_wp2_with fail;exact⟨⟨1,by omega,rfl,HM⟩,by simp[intOf]⟩
   ·have hE:=aa (mP c ⟨0,by omega⟩ (by have:=cn.1 hq;simp only[et];omega));clear fE;go_wp2_with fail;go_ret;exact⟨aE (by rw[hE.out];rfl),rfl⟩
  ·have he:=HE ⟨1,by omega⟩;have hv:=HV ⟨1,by omega⟩;simp only[et,Nat.reduceMul,Nat.reduceAdd]at he hv;cases hq:((98:Int)==(c.toNat:Int))
   ·have HM:=aa (mQ fE (m:=98) rfl hq);clear fE;go_wp2_with fail;exact⟨⟨2,by omega,rfl,HM⟩,by simp[intOf]⟩
   ·have hE:=aa (mP c ⟨1,by omega⟩ (by have:=cn.1 hq;simp only[et];omega));clear fE;go_wp2_with fail;go_ret;exact⟨aE (by rw[hE.out];rfl),rfl⟩
  ·have he:=HE ⟨2,by omega⟩;have hv:=HV ⟨2,by omega⟩;simp only[et,Nat.reduceMul,Nat.reduceAdd]at he hv;cases hq:((116:Int)==(c.toNat:Int))
   ·have HM:=aa (mQ fE (m:=116) rfl hq);clear fE;go_wp2_with fail;exact⟨⟨3,by omega,rfl,HM⟩,by simp[intOf]⟩
   ·have hE:=aa (mP c ⟨2,by omega⟩ (by have:=cn.1 hq;simp only[et];omega));clear fE;go_wp2_with fail;go_ret;exact⟨aE (by rw[hE.out];rfl),rfl⟩
  ·have he:=HE ⟨3,by omega⟩;have hv:=HV ⟨3,by omega⟩;simp only[et,Nat.reduceMul,Nat.reduceAdd]at he hv;cases hq:((110:Int)==(c.toNat:Int))
   ·have HM:=aa (mQ fE (m:=110) rfl hq);clear fE;go_wp2_with fail;exact⟨⟨4,by omega,rfl,HM⟩,by simp[intOf]⟩
   ·have hE:=aa (mP c ⟨3,by omega⟩ (by have:=cn.1 hq;simp only[et];omega));clear fE;go_wp2_with fail;go_ret;exact⟨aE (by rw[hE.out];rfl),rfl⟩
  ·have he:=HE ⟨4,by omega⟩;have hv:=HV ⟨4,by omega⟩;simp only[et,Nat.reduceMul,Nat.reduceAdd]at he hv;cases hq:((118:Int)==(c.toNat:Int))
   ·have HM:=aa (mQ fE (m:=118) rfl hq);clear fE;go_wp2_with fail;exact⟨⟨5,by omega,rfl,HM⟩,by simp[intOf]⟩
   ·have hE:=aa (mP c ⟨4,by omega⟩ (by have:=cn.1 hq;simp only[et];omega));clear fE;go_wp2_with fail;go_ret;exact⟨aE (by rw[hE.out];rfl),rfl⟩
  ·have he:=HE ⟨5,by omega⟩;have hv:=HV ⟨5,by omega⟩;simp only[et,Nat.reduceMul,Nat.reduceAdd]at he hv;cases hq:((102:Int)==(c.toNat:Int))
   ·have HM:=aa (mQ fE (m:=102) rfl hq);clear fE;go_wp2_with fail;exact⟨⟨6,by omega,rfl,HM⟩,by simp[intOf]⟩
   ·have hE:=aa (mP c ⟨5,by omega⟩ (by have:=cn.1 hq;simp only[et];omega));clear fE;go_wp2_with fail;go_ret;exact⟨aE (by rw[hE.out];rfl),rfl⟩
  ·have he:=HE ⟨6,by omega⟩;have hv:=HV ⟨6,by omega⟩;simp only[et,Nat.reduceMul,Nat.reduceAdd]at he hv;cases hq:((114:Int)==(c.toNat:Int))
   ·have HM:=aa (mQ fE (m:=114) rfl hq);clear fE;go_wp2_with fail;exact⟨⟨7,by omega,rfl,HM⟩,by simp[intOf]⟩
   ·have hE:=aa (mP c ⟨6,by omega⟩ (by have:=cn.1 hq;simp only[et];omega));clear fE;go_wp2_with fail;go_ret;exact⟨aE (by rw[hE.out];rfl),rfl⟩
  ·have hE:=aa (Rd c (fun k=>fE k.val k.isLt));clear fE;go_wp2_with fail;go_ret;exact⟨aE (by rw[hE.out]),rfl⟩
def Vy (w:World) (n:Nat) (e:Ending) (w':World):Prop:= ∃r:Int,e= .returned (.tuple #[.int .i32 r,.int .i64 (n:Int)])∧Below w.heap.size w w'
theorem Vz (s:ByteArray) (i:Nat) (w:World) (hs:s.size≤281474976710656) (hi:i<s.size):
  Calls prog 72 #[.string s,.int .i64 (i:Int)] w (Vy w (tH s.data.toList i)):=by
 obtain⟨N,hN⟩: ∃N,N=tH s.data.toList i:=⟨_,rfl⟩;rw[←hN];have HN:=aa hN;clear hN;have ti:decide ((i:Int)<0)=false:=by simp
 have hi1:decide (s.size≤i)=false:=by simpa using hi
 have xa:decide ((s.size:Int)≤(i:Int))=false:=by simpa using hi
 go_enter func72,ntmps72;go_wp2_with fail;go_loopw [6] (fun t wr=> ∃v:Nat,1≤v∧v≤5∧i+v≤s.size+1∧t= .int .i64 v∧Below w.heap.size w wr∧Hid (∀u,1≤u→u<v→gu (jQ s.data.toList i u)≠(s.data.toList.drop i).take u)) (fun t _=>5-(intOf t).toNat)
 case atStart=>exact⟨1,by omega,by omega,by omega,rfl,aS _ _,aa (fun u h1 h2=>by omega)⟩
 case round=>
  obtain⟨v,SS,hv5,hiv,rfl,bN,tw⟩:=hrel;by_cases hc:v≤4∧i+v≤s.size
  ·obtain⟨hv4,afI⟩:=hc;go_wp2_with fail;refine(Rc s i v _ hs SS hv4 afI).mono ?_;rintro e w1 ⟨rfl,rfl⟩;obtain⟨n,hn⟩: ∃n,n=jQ s.data.toList i v:=⟨_,rfl⟩;rw[←hn];have HG:=aa hn;clear hn;go_wp2_with fail;refine(JO n _).mono ?_;rintro e w1 ⟨rfl,aU⟩;obtain⟨F,hF⟩: ∃F:ByteArray,F=⟨(gu n).toArray⟩:=⟨_,rfl⟩;have hFd:F.data.toList=gu n:=by rw[hF]
   have hFs:F.size≤4:=by rw[←ab,hFd];exact Qz n
   have HB:=aa (bN.trans (aU.mono bN.size));rw[←hF];have HFd:=aa hFd;clear hF hFd aU bN;by_cases hh:gu n=(s.data.toList.drop i).take v
   ·have hNv:=Qy (l:=s.data.toList) (i:=i) (w:=v) (by rw[ab];exact afI) SS hv4 (by rw[←HG.out];exact hh);have jf:F.size=v:=by rw[←ab,HFd.out,hh,nZ,mY,ab];omega
    have hex:((s.extract i (i+v)).toList==F.toList)=true:=by
     rw[cn,nW,nW,HFd.out,hh,Lib.extract_data,show i+v-i=v by omega]
    have HNv:=aa hNv;clear hNv hh tw;go_wp2_with fail;go_ret2;exact⟨_,by rw[HN.out,HNv.out];rfl,HB⟩
   ·have Tm: ∀u,1≤u→u<v+1→gu (jQ s.data.toList i u)≠(s.data.toList.drop i).take u:=by
     intro u h1 h2;by_cases hu:u<v
     ·exact tw u h1 hu
     ·obtain rfl:u=v:=by omega
      rw[←HG.out];exact hh
    have hex:((s.extract i (i+v)).toList==F.toList)=false:=by
     rw[bK,nW,nW,HFd.out,Lib.extract_data,show i+v-i=v by omega];exact fun e=>hh e.symm
    have HNO:=aa Tm;clear hh tw Tm;cases jf:((F.size:Int)==(v:Int))
    all_goals
     go_wp2_with fail;exact⟨⟨v+1,by omega,by omega,by omega,by go_num,HB,HNO⟩,by simp[intOf];omega⟩
  ·have sZ:=MB (l:=s.data.toList) (i:=i) (w:=v) (by rw[ab];exact hi) (by rw[ab];omega) tw;have HN0:=aa sZ;clear sZ tw;by_cases hv4:v≤4
   ·have hx:((v:Int)≤(s.size:Int)-(i:Int))=False:=bL (by omega);clear hc;go_wp2_with fail;go_ret2;exact⟨_,by rw[HN.out,HN0.out];rfl,bN⟩
   ·have hx:((v:Int)≤4)=False:=bL (by omega);clear hc;go_wp2_with fail;go_ret2;exact⟨_,by rw[HN.out,HN0.out];rfl,bN⟩
theorem j6 (s:ByteArray) (w:World) (hs:s.size≤281474976710656):
  Calls prog 51 #[.string s] w fun e w'=>e= .returned (.bool (valid s.data.toList))∧Below w.heap.size w w':=by
 have h0:=B5 s.data.toList;obtain⟨V,hV⟩: ∃V,V=valid s.data.toList:=⟨_,rfl⟩;rw[←hV]at h0 ⊢
 have HZ:=aa h0;clear hV h0;go_enter func51,ntmps51;go_wp2_with fail;go_loopw [3] (fun t wr=> ∃k:Nat,k≤s.size∧t= .int .i64 k∧Below w.heap.size w wr∧Hid (vH s.data.toList k=V)) (fun t _=>s.size-(intOf t).toNat)
 case atStart=>exact⟨0,by omega,rfl,aS _ _,aa HZ⟩
 case round=>
  obtain⟨k,hk,rfl,bN,gJ⟩:=hrel;by_cases au:k<s.size
  ·go_wp2_with fail;refine(Vz s k _ hs au).mono ?_;rintro e w1 ⟨r,rfl,aU⟩;have oN:=bN.trans (aU.mono bN.size);clear bN aU;cases hb:bad s.data.toList k
   ·have ey:=vO s.data.toList k;have AJ:=TC s.data.toList k (by rw[ab];exact au);rw[ab]at AJ;have HS:=aa ((B6 (by rw[ab];exact au) hb).trans gJ);have Z8:tH s.data.toList k=(dec s.data.toList k).2:=by rw[tH,hb,af (by simp)]
    rw[Z8];generalize (dec s.data.toList k).2=n at*
    have SZ:((n:Int)==0)=false:=bK.2 (by omega);clear Z8 gJ hb;go_wp2_with fail;exact⟨⟨k+n,by omega,by apply IZ;omega,oN,HS⟩,by simp[intOf];omega⟩
   ·have Z8:tH s.data.toList k=0:=by rw[tH,hb,ar rfl]
    have hE:=(ES (by rw[ab];exact au) hb).symm.trans gJ;rw[Z8];have HE:=aa hE;clear Z8 hE gJ hb;go_wp2_with fail;go_ret;exact⟨ah HE,oN⟩
  ·have hE:=(ER (l:=s.data.toList) (i:=k) (by rw[ab];omega)).symm.trans gJ;have HE:=aa hE;clear hE gJ;go_wp2_with fail;go_ret;exact⟨ah HE,bN⟩
theorem nQ (s:ByteArray) (x y z:Int) (i k base en:Nat) (hx:x=(i:Int)) (hy:y=(k:Int)) (hz:z=(base:Int)) (w:World) (hs:s.size≤281474976710656) (hi:i≤281474976710657) (lC:1≤k) (hk:k≤8) (tz:en≤s.size) (cU:base=8∨base=16):
  Calls prog 144 #[.string s,.int .i64 x,.int .i64 y,.int .i64 z,.int .i64 (en:Int)] w fun e w'=>e= .returned (.int .i64 (zZ (fe ((s.data.toList.take en).drop i) k base)))∧w=w':=by
 subst hx hy hz;exact Ni s i k base en w hs hi lC hk tz cU
def kI (q:UInt8) (l:List UInt8):List UInt8×Nat:=match dJ q l with|none=>([],0)|some (b,n)=>(b,n+1)
def oo (w:World) (r:List UInt8×Nat) (e:Ending) (w':World):Prop:=e= .returned (.tuple #[.string ⟨r.1.toArray⟩,.int .i64 (r.2:Int)])∧Below w.heap.size w w'
theorem j7 {r:List UInt8×Nat} {b:List UInt8} (h:r=(b,n)) (hb:Below w.heap.size w w'):oo w r (.returned (.tuple #[.string ⟨b.toArray⟩,.int .i64 (n:Int)])) w':=by
 subst h;exact⟨rfl,hb⟩
theorem kZ {r:List UInt8×Nat} (h:r=([],0)) (hb:Below w.heap.size w w'):oo w r (.returned (.tuple #[.string ⟨#[]⟩,.int .i64 0])) w':=j7 h hb
theorem oZ (h:i<en) (tz:en≤s.size):(s.data.toList.take en).drop i=(s[i]'(by omega))::(s.data.toList.take en).drop (i+1):=by
 rw[nV (by rw[nZ,ab];omega)]
 congr 1
 rw[IL];exact gl _ _ _
theorem De (s:ByteArray) (i en:Nat) (q:UInt8) (w:World) (hs:s.size≤281474976710656) (tz:en≤s.size) (hi:i<en) (h:en≤i+1):
  Calls prog 132 #[.string s,.int .i64 (i:Int),.int .i64 (en:Int),.int .u8 (q.toNat:Int)] w (oo w (kI q ((s.data.toList.take en).drop (i+1)))):=by
 have hE:kI q ((s.data.toList.take en).drop (i+1))=([],0):=by
  rw[s9 (by rw[nZ];omega)];rfl
 have HE:=aa hE;clear hE;go_enter func132,ntmps132;go_wp2_with fail;go_ret2;exact kZ HE.out (aS _ _)
theorem Al (s:ByteArray) (i en:Nat) (q:UInt8) (w:World) (hs:s.size≤281474976710656) (tz:en≤s.size) (hi:i+1<en) (hq:q=34∨q=39) (hc:s[i+1]'(by omega)=q∨s[i+1]'(by omega)=92):
  Calls prog 132 #[.string s,.int .i64 (i:Int),.int .i64 (en:Int),.int .u8 (q.toNat:Int)] w (oo w (kI q ((s.data.toList.take en).drop (i+1)))):=by
 have hE:kI q ((s.data.toList.take en).drop (i+1))=([s[i+1]'(by omega)],2):=by
  rw[oZ hi tz];generalize s[i+1]'(by omega)=c at hc;have hp:ew c=false:=by rcases hc with rfl|rfl<;>(first|(rcases hq with rfl|rfl<;>rfl)|rfl)
  simp[kI,dJ,hp,hc.symm]
 have HE:=aa hE;have LU:=Bu w _ (s[i+1]'(by omega)) rfl;have HB:=aa ((aS w.heap.size w).alloc (aP _) (.cells #[.int .u8 ((s[i+1]'(by omega)).toNat:Int)] 5));have hin:i+1<s.size:=by omega
 clear hE;cases s6:((s[i+1].toNat:Int)==(q.toNat:Int))
 ·have h92:((s[i+1].toNat:Int)==92)=true:=by
   rcases hc with h|h
   ·rw[h]at s6;simp at s6
   ·rw[h];rfl
  clear hc hq;go_enter func132,ntmps132;go_wp2_with fail;go_ret2;exact j7 HE.out HB.out
 ·clear hc hq;go_enter func132,ntmps132;go_wp2_with fail;go_ret2;exact j7 HE.out HB.out
theorem yh (s:ByteArray) (i en:Nat) (q:UInt8) (w:World) (hs:s.size≤281474976710656) (tz:en≤s.size) (hi:i+1<en) (s6:((s[i+1]'(by omega)).toNat:Int)≠(q.toNat:Int)) (qV:((s[i+1]'(by omega)).toNat:Int)≠92) (hp:ew (s[i+1]'(by omega))=true):
  Calls prog 132 #[.string s,.int .i64 (i:Int),.int .i64 (en:Int),.int .u8 (q.toNat:Int)] w (oo w (kI q ((s.data.toList.take en).drop (i+1)))):=by
 have hin:i+1<s.size:=by omega
 have hE:kI q ((s.data.toList.take en).drop (i+1))=([ln s[i+1]],2):=by
  rw[oZ hi tz];simp[kI,dJ,hp]
 have hl:AZ s[i+1]=((ln s[i+1]).toNat:Int):=by rw[AZ,ar hp]
 obtain⟨p,Ap⟩: ∃p,p=ln s[i+1]:=⟨_,rfl⟩;have asG:(p.toNat:Int)≤13:=by
  rw[Ap];unfold ln;repeat' split
  all_goals decide
 rw[←Ap]at hE hl;have HE:=aa hE;have LU:=Bu w _ p rfl;have HB:=aa ((aS w.heap.size w).alloc (aP _) (.cells #[.int .u8 (p.toNat:Int)] 5));have e1:=bK.2 s6;have e2:=bK.2 qV;clear hE hp Ap s6 qV;go_enter func132,ntmps132;go_wp2_with fail;refine(im _ _).mono ?_;rintro e w1 ⟨rfl,rfl⟩;rw[hl];go_wp2_with fail;go_ret2;exact j7 HE.out HB.out
theorem Ha (s:ByteArray) (i en:Nat) (q:UInt8) (w:World) (hs:s.size≤281474976710656) (tz:en≤s.size) (hi:i+1<en) (hq:q=34∨q=39) (hc:s[i+1]'(by omega)=120):
  Calls prog 132 #[.string s,.int .i64 (i:Int),.int .i64 (en:Int),.int .u8 (q.toNat:Int)] w (oo w (kI q ((s.data.toList.take en).drop (i+1)))):=by
 have hin:i+1<s.size:=by omega
 have hql:(q.toNat:Int)=34∨(q.toNat:Int)=39:=by
  rcases hq with rfl|rfl
  ·exact .inl rfl
  ·exact .inr rfl
 have TO:(s[i+1].toNat:Int)=120:=by rw[hc];rfl
 have tY: ¬((120:UInt8)=92∨(120:UInt8)=q):=by rcases hq with rfl|rfl<;>decide
 have hE:kI q ((s.data.toList.take en).drop (i+1))=match fe ((s.data.toList.take en).drop (i+1+1)) 2 16 with|some v=>([UInt8.ofNat v],4)|none=>([],0):=by
  rw[oZ hi tz,hc];simp only[kI,dJ,af tY,show ew 120=false from rfl,lh,iE,kJ];cases fe ((s.data.toList.take en).drop (i+1+1)) 2 16<;>rfl
 have hl:AZ s[i+1]= -1:=by rw[hc];decide
 have e1:((s[i+1].toNat:Int)==(q.toNat:Int))=false:=bK.2 (by omega);have e2:((s[i+1].toNat:Int)==92)=false:=bK.2 (by omega);have e3:((s[i+1].toNat:Int)==120)=true:=cn.2 TO;cases hd:fe ((s.data.toList.take en).drop (i+1+1)) 2 16 with
 |none=>
  rw[hd]at hE;have HE:=aa hE;have HD:=aa hd;clear hE hd hq hql TO tY hc;go_enter func132,ntmps132;go_wp2_with fail;refine(im _ _).mono ?_;rintro e w1 ⟨rfl,rfl⟩;rw[hl];go_wp2_with fail;refine(nQ s _ _ _ (i+2) 2 16 en (by omega) (by rfl) (by rfl) _ hs (by omega) (by omega) (by omega) tz (.inr rfl)).mono ?_;rintro e w1 ⟨rfl,rfl⟩;rw[HD.out,zZ];go_wp2_with fail;go_ret2;exact kZ HE.out (aS _ _)
 |some v=>
  rw[hd]at hE;simp only at hE;have hv:=sw (by omega) hd;obtain⟨x,hx⟩: ∃x,x=UInt8.ofNat v:=⟨_,rfl⟩;have hxv:(v:Int)=(x.toNat:Int):=by rw[hx,lu (by omega)]
  rw[←hx]at hE;have HE:=aa hE;have HD:=aa hd;have LU:=Bu w (v:Int) x hxv;have HB:=aa ((aS w.heap.size w).alloc (aP _) (.cells #[.int .u8 (v:Int)] 5));have Ht:(v:Int)≤255:=by omega
  clear hE hd hq hql TO tY hc hx hxv hv;go_enter func132,ntmps132;go_wp2_with fail;refine(im _ _).mono ?_;rintro e w1 ⟨rfl,rfl⟩;rw[hl];go_wp2_with fail;refine(nQ s _ _ _ (i+2) 2 16 en (by omega) (by rfl) (by rfl) _ hs (by omega) (by omega) (by omega) tz (.inr rfl)).mono ?_;rintro e w1 ⟨rfl,rfl⟩;rw[HD.out,zZ];go_wp2_with fail;go_ret2;exact j7 HE.out HB.out
def Yd (D:Option Nat):List UInt8×Nat:=match D with|some v=>(if v≤255 then([UInt8.ofNat v],4)else([],0))|none=>([],0)
theorem Hb (s:ByteArray) (i en:Nat) (q:UInt8) (w:World) (hs:s.size≤281474976710656) (tz:en≤s.size) (hi:i+1<en) (hq:q=34∨q=39) (hc:s[i+1]'(by omega)=117∨s[i+1]'(by omega)=85):
  Calls prog 132 #[.string s,.int .i64 (i:Int),.int .i64 (en:Int),.int .u8 (q.toNat:Int)] w (oo w (kI q ((s.data.toList.take en).drop (i+1)))):=by
 have hin:i+1<s.size:=by omega
 have hql:(q.toNat:Int)=34∨(q.toNat:Int)=39:=by
  rcases hq with rfl|rfl
  ·exact .inl rfl
  ·exact .inr rfl
 obtain⟨k,b,hk,hE,e4,e5,XJ⟩: ∃(k:Nat) (b:Bool),(k=4∨k=8)∧(kI q ((s.data.toList.take en).drop (i+1))=match fe ((s.data.toList.take en).drop (i+1+1)) k 16 with|some v=>(if ba v then(fO v,2+k)else([],0))|none=>([],0))∧
   ((s[i+1].toNat:Int)==117)=b∧((s[i+1].toNat:Int)==85)= !b∧((b=true∧k=4∧(s[i+1].toNat:Int)=117)∨(b=false∧k=8∧(s[i+1].toNat:Int)=85)):=by
  rcases hc with hc|hc
  ·refine⟨4,true,.inl rfl,?_,by rw[hc];rfl,by rw[hc];rfl,.inl ⟨rfl,rfl,by rw[hc];rfl⟩⟩;have tY: ¬((117:UInt8)=92∨(117:UInt8)=q):=by rcases hq with rfl|rfl<;>decide
   rw[oZ hi tz,hc];simp only[kI,dJ,af tY,show ew 117=false from rfl,lh,iE,kJ,show ¬((117:UInt8)=120)from by decide];cases fe ((s.data.toList.take en).drop (i+1+1)) 4 16 with
   |none=>rfl
   |some v=>cases h:ba v<;>simp[h]
  ·refine⟨8,false,.inr rfl,?_,by rw[hc];rfl,by rw[hc];rfl,.inr ⟨rfl,rfl,by rw[hc];rfl⟩⟩;have tY: ¬((85:UInt8)=92∨(85:UInt8)=q):=by rcases hq with rfl|rfl<;>decide
   rw[oZ hi tz,hc];simp only[kI,dJ,af tY,show ew 85=false from rfl,lh,iE,kJ,show ¬((85:UInt8)=120)from by decide,show ¬((85:UInt8)=117)from by decide];cases fe ((s.data.toList.take en).drop (i+1+1)) 8 16 with
   |none=>rfl
   |some v=>cases h:ba v<;>simp[h]
 have hl:AZ s[i+1]= -1:=by rcases hc with hc|hc<;>(rw[hc];decide)
 have e1:((s[i+1].toNat:Int)==(q.toNat:Int))=false:=bK.2 (by omega);have e2:((s[i+1].toNat:Int)==92)=false:=bK.2 (by omega);have e3:((s[i+1].toNat:Int)==120)=false:=bK.2 (by omega);obtain⟨D,hD⟩: ∃D,D=fe ((s.data.toList.take en).drop (i+1+1)) k 16:=⟨_,rfl⟩;have zY: ∀w,Calls prog 144 #[.string s,.int .i64 ((i:Int)+2),.int .i64 (k:Int),.int .i64 16,.int .i64 (en:Int)] w fun e w'=>e= .returned (.int .i64 (zZ D))∧w=w':=by
  intro w;rw[hD];exact nQ s _ _ _ (i+2) k 16 en (by omega) rfl (by rfl) w hs (by omega) (by omega) (by omega) tz (.inr rfl)
 rw[←hD]at hE;obtain⟨n,hn⟩: ∃n,n=zZ D:=⟨_,rfl⟩;obtain⟨R,hR⟩: ∃R,R=kI q ((s.data.toList.take en).drop (i+1)):=⟨_,rfl⟩;rw[←hR]at hE ⊢
 have hEn:(decide (0≤n)&&ba n.toNat)=true∧R=(gu n,2+k)∨(decide (0≤n)&&ba n.toNat)=false∧R=([],0):=by
  cases D with
  |none=>rw[hn];exact .inr ⟨rfl,hE⟩
  |some v=>
   rw[hn];simp only[zZ,mq]at hE ⊢
   cases hr:ba v
   ·rw[hr]at hE;exact .inr ⟨by simp,by simpa using hE⟩
   ·rw[hr]at hE;refine .inl ⟨by simp,?_⟩;rw[gu,ar ⟨by omega,by simpa using hr⟩];simpa using hE
 rw[←hn]at zY;have HN:=aa zY;clear hE hD hR hn zY hq hql hc;rcases hEn with⟨hr,hE⟩|⟨hr,hE⟩
 ·have HE:=aa hE;have HR:=aa hr;clear hE hr;rcases XJ with⟨rfl,rfl,XJ⟩|⟨rfl,rfl,XJ⟩
  all_goals
   clear hk XJ;go_enter func132,ntmps132;go_wp2_with fail;refine(im _ _).mono ?_;rintro e w1 ⟨rfl,rfl⟩;rw[hl];go_wp2_with fail;refine(HN.out _).mono ?_;rintro e w1 ⟨rfl,rfl⟩;go_wp2_with fail;refine(jd _ _).mono ?_;rintro e w1 ⟨rfl,rfl⟩;rw[HR.out];go_wp2_with fail;refine(JO _ _).mono ?_;rintro e w1 ⟨rfl,hb⟩;go_wp2_with fail;go_ret2;exact j7 HE.out hb
 ·have HE:=aa hE;have HR:=aa hr;clear hE hr;rcases XJ with⟨rfl,rfl,XJ⟩|⟨rfl,rfl,XJ⟩
  all_goals
   clear hk XJ;go_enter func132,ntmps132;go_wp2_with fail;refine(im _ _).mono ?_;rintro e w1 ⟨rfl,rfl⟩;rw[hl];go_wp2_with fail;refine(HN.out _).mono ?_;rintro e w1 ⟨rfl,rfl⟩;go_wp2_with fail;refine(jd _ _).mono ?_;rintro e w1 ⟨rfl,rfl⟩;rw[HR.out];go_wp2_with fail;go_ret2;exact kZ HE.out (aS _ _)
theorem Df (s:ByteArray) (i en:Nat) (q:UInt8) (w:World) (hs:s.size≤281474976710656) (tz:en≤s.size) (hi:i+1<en) (s6:((s[i+1]'(by omega)).toNat:Int)≠(q.toNat:Int)) (hn: ∀t∈[(92:UInt8),120,117,85],s[i+1]'(by omega)≠t) (hp:ew (s[i+1]'(by omega))=false):
  Calls prog 132 #[.string s,.int .i64 (i:Int),.int .i64 (en:Int),.int .u8 (q.toNat:Int)] w (oo w (kI q ((s.data.toList.take en).drop (i+1)))):=by
 have hin:i+1<s.size:=by omega
 have bC: ∀t:UInt8,s[i+1]≠t→((s[i+1].toNat:Int)==(t.toNat:Int))=false:=fun t h=>bK.2 (fun e=>h (Ba.1 (by omega)))
 have n1:s[i+1]≠92:=hn 92 (by simp);have n2:s[i+1]≠120:=hn 120 (by simp);have n3:s[i+1]≠117:=hn 117 (by simp);have n4:s[i+1]≠85:=hn 85 (by simp);have n5:s[i+1]≠q:=fun e=>s6 (by rw[e])
 obtain⟨D,hD⟩: ∃D,D=fe ((s.data.toList.take en).drop (i+1)) 3 8:=⟨_,rfl⟩;have zY: ∀w,Calls prog 144 #[.string s,.int .i64 ((i:Int)+1),.int .i64 3,.int .i64 8,.int .i64 (en:Int)] w fun e w'=>e= .returned (.int .i64 (zZ D))∧w=w':=by
  intro w;rw[hD];exact nQ s _ _ _ (i+1) 3 8 en (by omega) (by rfl) (by rfl) w hs (by omega) (by omega) (by omega) tz (.inl rfl)
 have hE:kI q ((s.data.toList.take en).drop (i+1))=Yd D:=by
  rw[hD,oZ hi tz];have h5: ¬(s[i+1]=92∨s[i+1]=q):=by rintro(h|h)<;>first|exact n1 h|exact n5 h
  unfold kI dJ;simp only[hp,h5,n2,n3,n4,iE,lh];cases fe (s[i+1]::(s.data.toList.take en).drop (i+1+1)) 3 8 with
  |none=>rfl
  |some v=>by_cases h:v≤255<;>simp[h,Yd]
 have abA: ∀v,D=some v→v<512:=fun v h=>by
  have:=sw (by omega) (hD.symm.trans h);simpa using this
 have hl:AZ s[i+1]= -1:=by rw[AZ,hp];rfl
 have e1:((s[i+1].toNat:Int)==(q.toNat:Int))=false:=bK.2 s6;have e2:((s[i+1].toNat:Int)==92)=false:=bC 92 n1;have e3:((s[i+1].toNat:Int)==120)=false:=bC 120 n2;have e4:((s[i+1].toNat:Int)==117)=false:=bC 117 n3;have e5:((s[i+1].toNat:Int)==85)=false:=bC 85 n4;obtain⟨R,hR⟩: ∃R,R=kI q ((s.data.toList.take en).drop (i+1)):=⟨_,rfl⟩;rw[←hR]at hE ⊢
 have HN:=aa zY;clear zY hD hR bC n1 n2 n3 n4 n5 hn hp s6;cases D with
 |none=>
  simp only[Yd]at hE;have HE:=aa hE;clear hE abA;go_enter func132,ntmps132;go_wp2_with fail;refine(im _ _).mono ?_;rintro e w1 ⟨rfl,rfl⟩;rw[hl];go_wp2_with fail;refine(HN.out _).mono ?_;rintro e w1 ⟨rfl,rfl⟩;rw[zZ];go_wp2_with fail;go_ret2;exact kZ HE.out (aS _ _)
 |some v=>
  have hv5:=abA v rfl;simp only[Yd]at hE;clear abA;by_cases hv:v≤255
  ·rw[ar hv]at hE;obtain⟨x,hx⟩: ∃x,x=UInt8.ofNat v:=⟨_,rfl⟩;have hxv:(v:Int)=(x.toNat:Int):=by rw[hx,lu (by omega)]
   rw[←hx]at hE;have HE:=aa hE;have LU:=Bu w (v:Int) x hxv;have HB:=aa ((aS w.heap.size w).alloc (aP _) (.cells #[.int .u8 (v:Int)] 5));have Ht:(v:Int)≤255:=by omega
   clear hE hx hxv hv5 hv;go_enter func132,ntmps132;go_wp2_with fail;refine(im _ _).mono ?_;rintro e w1 ⟨rfl,rfl⟩;rw[hl];go_wp2_with fail;refine(HN.out _).mono ?_;rintro e w1 ⟨rfl,rfl⟩;rw[zZ];go_wp2_with fail;go_ret2;exact j7 HE.out HB.out
  ·rw[af hv]at hE;have HE:=aa hE;have Ht:(255:Int)<(v:Int):=by omega
   clear hE hv;go_enter func132,ntmps132;go_wp2_with fail;refine(im _ _).mono ?_;rintro e w1 ⟨rfl,rfl⟩;rw[hl];go_wp2_with fail;refine(HN.out _).mono ?_;rintro e w1 ⟨rfl,rfl⟩;rw[zZ];go_wp2_with fail;go_ret2;exact kZ HE.out (aS _ _)
theorem Nj (s:ByteArray) (i en:Nat) (q:UInt8) (w:World) (hs:s.size≤281474976710656) (tz:en≤s.size) (hi:i<en) (hq:q=34∨q=39):
  Calls prog 132 #[.string s,.int .i64 (i:Int),.int .i64 (en:Int),.int .u8 (q.toNat:Int)] w (oo w (kI q ((s.data.toList.take en).drop (i+1)))):=by
 by_cases h:i+1<en
 ·have hin:i+1<s.size:=by omega
  by_cases h1:s[i+1]=q∨s[i+1]=92
  ·exact Al s i en q w hs tz h hq h1
  ·have Eg:s[i+1]≠q:=fun e=>h1 (.inl e)
   have tY:s[i+1]≠92:=fun e=>h1 (.inr e)
   have s6:((s[i+1]).toNat:Int)≠(q.toNat:Int):=fun e=>Eg (Ba.1 (by omega))
   cases hp:ew s[i+1]
   ·by_cases h2:s[i+1]=120
    ·exact Ha s i en q w hs tz h hq h2
    ·by_cases h3:s[i+1]=117∨s[i+1]=85
     ·exact Hb s i en q w hs tz h hq h3
     ·refine Df s i en q w hs tz h s6 ?_ hp;intro t ht;simp only[gq,kE,iN]at ht;rcases ht with rfl|rfl|rfl|rfl
      ·exact tY
      ·exact h2
      ·exact fun e=>h3 (.inl e)
      ·exact fun e=>h3 (.inr e)
   ·refine yh s i en q w hs tz h s6 ?_ hp;exact fun e=>tY (cD (n:=92) (by omega) (by omega))
 ·exact De s i en q w hs tz hi (by omega)
theorem zB (s:ByteArray) (x y:Int) (i en:Nat) (hx:x=(i:Int)) (hy:y=(en:Int)) (q:UInt8) (w:World) (hs:s.size≤281474976710656) (tz:en≤s.size) (hi:i<en) (hq:q=34∨q=39):
  Calls prog 132 #[.string s,.int .i64 x,.int .i64 y,.int .u8 (q.toNat:Int)] w (oo w (kI q ((s.data.toList.take en).drop (i+1)))):=by
 subst hx hy;exact Nj s i en q w hs tz hi hq
theorem Re {xs:List Value} (h:w.ownsRow base e size v n xs): ∃ao c',v= .slice ao n c':=by
 rcases h.2 with⟨rfl,rfl⟩|⟨g,cap,cur,rfl,_⟩
 ·exact⟨_,_,rfl⟩
 ·exact⟨_,_,rfl⟩
theorem Kw (l:List UInt8) (m:Nat):(inside l).drop m=(l.take (l.length-1)).drop (m+1):=by
 have h:(l.take (l.length-1)).drop 1=(l.drop 1).take (l.length-2):=by rw[List.drop_take,show l.length-1-1=l.length-2 by omega]
 rw[Bg m 1,←yF,h,inside]
theorem Rf (h:k<s.size-2):an (inside s.data.toList) k=s[k+1]'(by omega):=by
 rw[inside,ab,an,lf,List.getElem?_take_of_lt h,List.getElem?_drop,Bg 1 k,lB (by rw[ab];omega)];exact gl _ _ _
theorem Rg (h:dJ q l=none):kI q l=([],0):=by rw[kI,h]
theorem Rh {b:List UInt8} (h:dJ q l=some (b,n)):kI q l=(b,n+1):=by rw[kI,h]
theorem Am (s:ByteArray) (w:World) (hs:s.size≤281474976710656) (hv:valid s.data.toList=false):
  Calls prog 115 #[.string s] w (kp w (4,[])):=by
 go_enter func115,ntmps115;go_wp2_with fail;refine(j6 s _ (by omega)).mono ?_;rintro e w1 ⟨rfl,hb⟩;rw[hv];go_wp2_with fail;go_ret2;exact⟨rfl,hb⟩
theorem yj (s:ByteArray) (w:World) (hs:s.size≤281474976710656) (hv:valid s.data.toList=true) (hl:bz s.data.toList 0≠some s.data.toList.length):
  Calls prog 115 #[.string s] w (kp w (10,[])):=by
 go_enter func115,ntmps115;go_wp2_with fail;refine(j6 s _ (by omega)).mono ?_;rintro e w1 ⟨rfl,hb⟩;rw[hv];rw[ab]at hl;have HB:=aa hb;clear hb hv;cases hE:bz s.data.toList 0 with
 |none=>
  have HE:=aa hE;clear hE hl;go_wp2_with fail;refine(kY s 0 _ (by omega)).mono ?_;rintro e w2 ⟨rfl,rfl⟩;rw[HE.out];simp only[jL,oc];go_wp2_with fail;go_ret2;exact⟨rfl,HB⟩
 |some n=>
  rw[hE]at hl;have bC:((n:Int) != (s.size:Int))=true:=by
   rw[ju];intro e;exact hl (by rw[show n=s.size by omega])
  have HE:=aa hE;clear hE hl;go_wp2_with fail;refine(kY s 0 _ (by omega)).mono ?_;rintro e w2 ⟨rfl,rfl⟩;rw[HE.out];simp only[jL,oc];go_wp2_with fail;go_ret2;exact⟨rfl,HB⟩
theorem An (s:ByteArray) (w:World) (hs:s.size≤281474976710) (hv:valid s.data.toList=true) (hl:bz s.data.toList 0=some s.data.toList.length) (h0:0<s.size) (hq:s[0].toNat=96):
  Calls prog 115 #[.string s] w (kp w (0,inside s.data.toList)):=by
 have h2:=(ja hl).1;rw[ab]at hl h2;have hw:IntKind.i64.wrap ((s.size:Int)-1)=(s.size:Int)-1:=by rw[oG];omega
 have yq:((s.size:Int) != (s.size:Int))=false:=by simp
 go_enter func115,ntmps115;go_wp2_with fail;refine(j6 s _ (by omega)).mono ?_;rintro e w1 ⟨rfl,hb⟩;rw[hv];have HB:=aa hb;have HL:=aa hl;have HQ:=aa hq;clear hb hv hl hq;go_wp2_with fail;refine(kY s 0 _ (by omega)).mono ?_;rintro e w2 ⟨rfl,rfl⟩;rw[HL.out];simp only[jL,oc];have abm:((s[0].toNat:Int)==96)=true:=by rw[HQ.out];rfl
 go_wp2_with fail;go_ret2;exact⟨by rw[←xN,mk_data];rfl,HB⟩
theorem Ao (s:ByteArray) (w:World) (hs:s.size≤281474976710) (hv:valid s.data.toList=true) (hl:bz s.data.toList 0=some s.data.toList.length) (h0:0<s.size) (hq:s[0]=34∨s[0]=39) (T:Option (List UInt8)) (hT:oF s[0] (inside s.data.toList) 0 []=T):
  Calls prog 115 #[.string s] w (kp w (xC T)):=by
 have h2:=(ja hl).1;have SD:=uC h2;rw[ab]at hl h2 SD;have hw:IntKind.i64.wrap ((s.size:Int)-1)=(s.size:Int)-1:=by rw[oG];omega
 have yq:((s.size:Int) != (s.size:Int))=false:=by simp
 have abm:((s[0].toNat:Int)==96)=false:=by rcases hq with h|h<;>(rw[h];rfl)
 obtain⟨i0,ti,yn,db,ej⟩:=mC iT;have HL:=aa hl;have HQ:=aa hq;have HT:=aa hT;have HI:=aa SD;have HID:=aa (fun m=>Kw s.data.toList m);obtain⟨I,hI⟩: ∃I,I=inside s.data.toList:=⟨_,rfl⟩;have Ih:Hid (∀k (h:k<s.size-2),an I k=s[k+1]'(by omega)):=aa (fun k h=>by rw[hI];exact Rf h);rw[←hI]at HT HI HID;clear hl hq hT SD hI;go_enter func115,ntmps115;go_wp2_with fail;refine(j6 s _ (by omega)).mono ?_;rintro e w1 ⟨rfl,hb⟩;rw[hv];clear hv;go_wp2_with fail;refine(kY s 0 _ (by omega)).mono ?_;rintro e w2 ⟨rfl,rfl⟩;rw[HL.out];simp only[jL,oc];go_wp2_with fail;go_loopw [7,8] (fun v x wr=> ∃(k:Nat) (bs:List UInt8),k≤s.size-2∧bs.length≤k∧x= .int .i64 ((k:Int)+1)∧wr.ownsRow w.heap.size 5 1 v bs.length (cellsOf bs)∧Below w.heap.size w wr∧Hid (oF s[0] I k bs=T)) (fun _ x _=>s.size-(intOf x).toNat)
 case atStart=>exact⟨0,[],aT _,aP _,rfl,ur _ _ _ _,hb,HT.out⟩
 case round=>
  obtain⟨k,bs,hk,hbs,rfl,aL,bN,hT⟩:=hrel;clear HT hb;by_cases au:k<s.size-2
  ·have Xi:k<I.length:=by rw[HI.out];exact au
   have cB:an I k=s[k+1]:=Ih.out k au;have p1:((k:Int)+1<(s.size:Int)-1)=True:=az (by omega);cases hc:((s[k+1].toNat:Int) != 92)
   ·have qV:an I k=92:=by rw[cB];exact oD (n:=92) (by omega) rfl (by simpa [bne]using hc)
    have oO:(s.data.toList.take (s.size-1)).drop (k+1+1)=I.drop (k+1):=by rw[HID.out,ab]
    cases he:dJ s[0] (I.drop (k+1))with
    |none=>
     have FH:=(E1 (bs:=bs) Xi qV he).symm.trans hT.out;have Ln:=Rg he;rw[←oO]at Ln;have HE:=aa Ln;have SH:=aa FH;clear qV oO he FH Ln cB hT Xi;go_wp2_with fail;refine(zB s _ _ (k+1) (s.size-1) (by omega) (by omega) s[0] _ (by omega) (by omega) (by omega) HQ.out).mono ?_;rintro e w4 ⟨rfl,fa⟩;rw[HE.out];have HB:=aa (bN.trans (fa.mono bN.size));clear fa aL bN;go_wp2_with fail;go_ret2;exact⟨by rw[←SH.out];rfl,HB.out⟩
    |some p=>
     obtain⟨b,n⟩:=p;have hn:=wa he;have FH:=(Jf (bs:=bs) Xi qV he).trans hT.out;have Ln:=Rh he;rw[←oO]at Ln;rw[mY,HI.out]at hn;obtain⟨AK,xf,hn3⟩:=hn;have HE:=aa Ln;have SH:=aa FH;clear qV oO he FH Ln cB hT Xi;go_wp2_with fail;refine(zB s _ _ (k+1) (s.size-1) (by omega) (by omega) s[0] _ (by omega) (by omega) (by omega) HQ.out).mono ?_;rintro e w4 ⟨rfl,fa⟩;rw[HE.out];have asH:(((n+1:Nat):Int)==0)=false:=by rw[bK];omega
     have HB:=aa (bN.trans (fa.mono bN.size));have HO:=aa (o3 aL fa);have jf:(⟨b.toArray⟩:ByteArray).size=b.length:=by simp[ByteArray.size]
     clear fa aL bN;obtain⟨B,hB⟩: ∃B:ByteArray,B=⟨b.toArray⟩:=⟨_,rfl⟩;have hBc:Lib.strCells B=cellsOf b:=by rw[hB];simp[cellsOf,Lib.strCells]
     simp only;rw[←hB]at jf ⊢
     have HBc:=aa hBc;clear hB hBc;obtain⟨ao,c',rfl⟩:=Re HO.out;go_wp2_with (at_builtin;refine Lib.wpList_append_own_string _ rfl _ _ 147 9 rfl w.heap.size 5 i0 underlying147 underlying9 ti yn db ej _ _ _ rfl HO.out B rfl (by unfold maxLen;omega) (by omega) HB.out.size ?_);intro v3 w3 vI AT _;have iR:=aa (HB.out.grown AT HB.out.size (fun g hg=>(HO.out.lt g hg).1));have sV:=aa vI;clear vI AT;go_wp2_with fail;exact⟨⟨k+1+n,bs++b,by omega,by rw[fT];omega,by apply IZ;omega,by rw[fM,fT,←HBc.out];exact sV.out,iR.out,SH.out⟩,by simp[intOf];omega⟩
   ·have qV:an I k≠92:=by rw[cB];exact pO (n:=92) (by omega) rfl (by simpa [bne]using hc)
    have FH:=(Cg (q:=s[0]) (bs:=bs) Xi qV).trans hT.out;rw[cB]at FH;have SH:=aa FH;clear qV cB FH hT;go_wp2_with (at_builtin;refine iq rfl (.tmp 42) (.tmp 46) 147 rfl w.heap.size 5 (.int .u8 0) 1 1 iT underlying147 rfl (by omega) _ bs.length _ rfl aL [.int .u8 (s[k+1].toNat:Int)] rfl rfl (zU rfl) (by unfold maxLen;omega) (by omega) bN.size ?_);intro v' w4 ho hg;have HB:=aa (bN.grown hg bN.size (fun g tm=>(aL.lt g tm).1));have HO:=aa ho;clear ho hg aL bN;go_wp2_with fail;exact⟨⟨k+1,bs++[s[k+1]],by omega,by simp;omega,by go_num,by rw[fM,fT];exact HO.out,HB.out,SH.out⟩,by simp[intOf];omega⟩
  ·have p1:((k:Int)+1<(s.size:Int)-1)=False:=bL (by omega);have SJ:=(Je (q:=s[0]) (bs:=bs) (k:=k) (by rw[HI.out];omega)).symm.trans hT.out;have HTe:=aa SJ;have IV:=dV (P:=prog) aL 147 9 underlying147 underlying5 underlying9;have jf:(⟨bs.toArray⟩:ByteArray).size≤281474976710656:=by simp[ByteArray.size];omega
   have HS:=aa jf;clear SJ hT jf;go_wp2_with fail;refine(j6 ⟨bs.toArray⟩ _ HS.out).mono ?_;rintro e w4 ⟨rfl,fa⟩;have IY:=o3 aL fa;have ac2:=dV (P:=prog) IY 147 9 underlying147 underlying5 underlying9;have HB:=aa (bN.trans (fa.mono bN.size));clear aL IY bN fa IV;rw[show ((⟨bs.toArray⟩:ByteArray).data.toList)=bs from by simp];cases Xj:valid bs
   ·have HV:=aa Xj;clear Xj;go_wp2_with fail;go_ret2;exact⟨by rw[←HTe.out,xC];simp[HV.out],HB.out⟩
   ·have HV:=aa Xj;clear Xj;go_wp2_with fail;go_ret2;exact⟨by rw[←HTe.out,xC];simp[HV.out],HB.out⟩
theorem Kx (s:ByteArray) (w:World) (hs:s.size≤281474976710):
  Calls prog 115 #[.string s] w (kp w (lM s.data.toList)):=by
 unfold lM;cases hv:valid s.data.toList
 ·rw[ar rfl];exact Am s w (by omega) hv
 ·rw[af (by simp)];by_cases hl:bz s.data.toList 0=some s.data.toList.length
  ·rw[af (by simpa using hl)];have h2:=(ja hl).1;have h0:0<s.size:=by rw[ab]at h2;omega
   have cB:=aq h0;have hqq:=(ja hl).2;rw[cB]at hqq ⊢
   by_cases hq:s[0]=96
   ·rw[ar hq];exact An s w hs hv hl h0 (by rw[hq];rfl)
   ·rw[af hq];have hq':s[0]=34∨s[0]=39:=by
     simp only[dB,tD,cn]at hqq;rcases hqq with(h|h)|h
     ·exact .inl h
     ·exact .inr h
     ·exact absurd h hq
    have hT:oF s[0] (inside s.data.toList) 0 []=kM s[0] s.data.toList.length (inside s.data.toList):=by
     rw[oF,Bc,j9 s[0] (inside s.data.toList).length s.data.toList.length _ (aP _) (by rw[uC h2];omega)];cases kM s[0] s.data.toList.length (inside s.data.toList)<;>simp
    exact Ao s w hs hv hl h0 hq' _ hT
  ·rw[ar hl];exact yj s w (by omega) hv hl
def cN (w:World) (p:Prop) (e:Ending) (w':World):Prop:= ∃b:Bool,e= .returned (.bool b)∧(b=true↔p)∧Below w.heap.size w w'
theorem cN.yes {p:Prop} (h:p) (hb:Below w.heap.size w w'):cN w p (.returned (.bool true)) w':=⟨true,rfl,by simp[h],hb⟩
theorem cN.no {p:Prop} (h: ¬p) (hb:Below w.heap.size w w'):cN w p (.returned (.bool false)) w':=⟨false,rfl,by simp[h],hb⟩
theorem gN {x:ByteArray} :(x.toList==y.toList)=true↔x=y:=by
 rw[cn,nW,nW];constructor
 ·intro e;rw[←mk_data x,←mk_data y,e]
 ·rintro rfl;rfl
theorem xZ (h1:cL b1 w v1 xs) (h2:cL b2 w v2 ys) (hn:xs.length≤1099511627776) (hm:ys.length≤1099511627776):
  Calls prog 69 #[v1,v2] w (cN w (xs=ys)):=by
 obtain⟨a1,c1,rfl,lX⟩:=h1;obtain⟨a2,c2,rfl,ng⟩:=h2;have H1:=aa lX;have H2:=aa ng;clear lX ng;by_cases hl:xs.length=ys.length
 ·have HL:=aa hl;rw[←hl]at hm ⊢
  clear hl;go_enter func69,ntmps69;go_wp2_with fail;go_loopw [13] (fun t13 wr=> ∃j q:Nat,Hid (j≤xs.length)∧t13= .int .i64 (j:Int)∧wr=w.drewN q∧Hid (∀i (h:i<j) (hx:i<xs.length) (hy:i<ys.length),xs[i]=ys[i])) (fun t13 _=>xs.length-(intOf t13).toNat)
  case atStart=>exact⟨0,0,aa (aT _),rfl,rfl,aa fun i h=>absurd h (by omega)⟩
  case round=>
   obtain⟨j,q,hj,rfl,rfl,fF⟩:=hrel;by_cases au:j<xs.length
   ·have p1:((j:Int)<(xs.length:Int))=True:=az (by omega);have oe:j<ys.length:=by rw[←HL.out];exact au
    obtain⟨g1,o1,rfl,_,_,x1⟩:=H1 j au;obtain⟨g2,o2,rfl,_,_,x2⟩:=H2 j oe;generalize hX:xs[j]=x at x1;generalize hY:ys[j]=y at x2;have HX:=aa (show xs[j]=x from hX);have HY:=aa hY;clear hX hY;by_cases he:x=y
    ·have e1:(x.toList==y.toList)=true:=gN.2 he;have HN:Hid (∀i (h:i<j+1) (hx:i<xs.length) (hy:i<ys.length),xs[i]=ys[i]):=aa fun i h hx hy=>by
      by_cases e:i=j
      ·subst e;rw[HX.out,HY.out,he]
      ·exact fF i (by omega) hx hy
     clear he;go_wp2_with fail;go_quiet (fail);go_wp2_with fail;exact⟨⟨j+1,q+nq,aa au,rfl,rfl,HN⟩,by simp[intOf];omega⟩
    ·have e1:(x.toList==y.toList)=false:=by rw[←yC,gN];exact he
     have HN:Hid (¬xs=ys):=aa fun e=>he (by rw[←HX.out,←HY.out];subst e;rfl)
     clear he;go_wp2_with fail;go_quiet (fail);go_wp2_with fail;go_ret;exact cN.no HN (by rw[jN];exact bS (aS _ _) _)
   ·have p1:((j:Int)<(xs.length:Int))=False:=bL (by omega);have HN:=aa (IN HL fun i hx hy=>fF i (by omega) hx hy);go_wp2_with fail;go_ret;exact cN.yes HN (bS (aS _ _) _)
 ·have p1:((xs.length:Int)==(ys.length:Int))=false:=by rw[bK];omega
  have HN:Hid (¬xs=ys):=aa fun e=>hl (by rw[e])
  clear hl;go_enter func69,ntmps69;go_wp2_with fail;go_ret;exact cN.no HN (aS _ _)
theorem Ri {xs ys:List PM} (h1:fU b1 w v1 xs) (h2:fU b2 w v2 ys) (hn:xs.length≤1099511627776) (hm:ys.length≤1099511627776):
  Calls prog 68 #[v1,v2] w (cN w (xs=ys)):=by
 obtain⟨a1,c1,rfl,lX⟩:=h1;obtain⟨a2,c2,rfl,ng⟩:=h2;have H1:=aa lX;have H2:=aa ng;clear lX ng;by_cases hl:xs.length=ys.length
 ·have HL:=aa hl;rw[←hl]at hm ⊢
  clear hl;go_enter func68,ntmps68;go_wp2_with fail;go_loopw [13] (fun t13 wr=> ∃j q:Nat,Hid (j≤xs.length)∧t13= .int .i64 (j:Int)∧wr=w.drewN q∧Hid (∀i (h:i<j) (hx:i<xs.length) (hy:i<ys.length),xs[i]=ys[i])) (fun t13 _=>xs.length-(intOf t13).toNat)
  case atStart=>exact⟨0,0,aa (aT _),rfl,rfl,aa fun i h=>absurd h (by omega)⟩
  case round=>
   obtain⟨j,q,hj,rfl,rfl,fF⟩:=hrel;by_cases au:j<xs.length
   ·have p1:((j:Int)<(xs.length:Int))=True:=az (by omega);have oe:j<ys.length:=by rw[←HL.out];exact au
    obtain⟨g1,o1,rfl,_,_,x1,x1b,x1c⟩:=H1 j au;obtain⟨g2,o2,rfl,_,_,x2,x2b,x2c⟩:=H2 j oe;generalize hX:xs[j]=x at x1 x1b x1c;generalize hY:ys[j]=y at x2 x2b x2c;have HX:=aa (show xs[j]=x from hX);have HY:=aa hY;clear hX hY;by_cases he:x=y
    ·have HN:Hid (∀i (h:i<j+1) (hx:i<xs.length) (hy:i<ys.length),xs[i]=ys[i]):=aa fun i h hx hy=>by
      by_cases e:i=j
      ·subst e;rw[HX.out,HY.out,he]
      ·exact fF i (by omega) hx hy
     subst he;clear HX HY;obtain⟨n1,WQ,v1⟩:=x;simp only at x1 x1b x1c x2 x2b x2c;go_wp2_with fail;go_quiet (fail);go_wp2_with fail;exact⟨⟨j+1,q+nq,aa au,rfl,rfl,HN⟩,by simp[intOf];omega⟩
    ·have HN:Hid (¬xs=ys):=aa fun e=>he (by rw[←HX.out,←HY.out];subst e;rfl)
     clear HX HY;obtain⟨n1,WQ,v1⟩:=x;obtain⟨n2,p2',v2⟩:=y;simp only at x1 x1b x1c x2 x2b x2c;by_cases h1:n1=n2
     ·subst h1;by_cases h2:WQ=p2'
      ·subst h2;have e1:(v1.toList=v2.toList)=False:=bL fun e=>he (by rw[gN.1 (cn.2 e)])
       clear he;go_wp2_with fail;go_quiet (fail);go_wp2_with fail;go_ret;exact cN.no HN (by rw[jN];exact bS (aS _ _) _)
      ·have e1:(WQ=p2')=False:=bL h2;clear he h2;go_wp2_with fail;go_quiet (fail);go_wp2_with fail;go_ret;exact cN.no HN (by rw[jN];exact bS (aS _ _) _)
     ·have e1:(n1.toList=n2.toList)=False:=bL fun e=>h1 (gN.1 (cn.2 e))
      clear he h1;go_wp2_with fail;go_quiet (fail);go_wp2_with fail;go_ret;exact cN.no HN (by rw[jN];exact bS (aS _ _) _)
   ·have p1:((j:Int)<(xs.length:Int))=False:=bL (by omega);have HN:=aa (IN HL fun i hx hy=>fF i (by omega) hx hy);go_wp2_with fail;go_ret;exact cN.yes HN (bS (aS _ _) _)
 ·have p1:((xs.length:Int)==(ys.length:Int))=false:=by rw[bK];omega
  have HN:Hid (¬xs=ys):=aa fun e=>hl (by rw[e])
  clear hl;go_enter func68,ntmps68;go_wp2_with fail;go_ret;exact cN.no HN (aS _ _)
theorem ot (h1:cL b1 w v1 xs) (h2:cL b2 w v2 ys) (hn:xs.length≤1099511627776) (hm:ys.length≤1099511627776):
  Calls prog 38 #[v1,v2] w (cN w (xs=ys)):=by
 obtain⟨a1,c1,rfl,lX⟩:=h1;obtain⟨a2,c2,rfl,ng⟩:=h2;have H1:=aa lX;have H2:=aa ng;clear lX ng;by_cases hl:xs.length=ys.length
 ·have HL:=aa hl;rw[←hl]at hm ⊢
  clear hl;go_enter func38,ntmps38;go_wp2_with fail;go_loopw [5] (fun t13 wr=> ∃j q:Nat,Hid (j≤xs.length)∧t13= .int .i64 (j:Int)∧wr=w.drewN q∧Hid (∀i (h:i<j) (hx:i<xs.length) (hy:i<ys.length),xs[i]=ys[i])) (fun t13 _=>xs.length-(intOf t13).toNat)
  case atStart=>exact⟨0,0,aa (aT _),rfl,rfl,aa fun i h=>absurd h (by omega)⟩
  case round=>
   obtain⟨j,q,hj,rfl,rfl,fF⟩:=hrel;by_cases au:j<xs.length
   ·have p1:((j:Int)<(xs.length:Int))=True:=az (by omega);have oe:j<ys.length:=by rw[←HL.out];exact au
    obtain⟨g1,o1,rfl,_,_,x1⟩:=H1 j au;obtain⟨g2,o2,rfl,_,_,x2⟩:=H2 j oe;generalize hX:xs[j]=x at x1;generalize hY:ys[j]=y at x2;have HX:=aa (show xs[j]=x from hX);have HY:=aa hY;clear hX hY;by_cases he:x=y
    ·have e1:(x.toList==y.toList)=true:=gN.2 he;have HN:Hid (∀i (h:i<j+1) (hx:i<xs.length) (hy:i<ys.length),xs[i]=ys[i]):=aa fun i h hx hy=>by
      by_cases e:i=j
      ·subst e;rw[HX.out,HY.out,he]
      ·exact fF i (by omega) hx hy
     clear he;go_wp2_with fail;go_quiet (fail);go_wp2_with fail;exact⟨⟨j+1,q+nq,aa au,rfl,rfl,HN⟩,by simp[intOf];omega⟩
    ·have e1:(x.toList==y.toList)=false:=by rw[←yC,gN];exact he
     have HN:Hid (¬xs=ys):=aa fun e=>he (by rw[←HX.out,←HY.out];subst e;rfl)
     clear he;go_wp2_with fail;go_quiet (fail);go_wp2_with fail;go_ret;exact cN.no HN (by rw[jN];exact bS (aS _ _) _)
   ·have p1:((j:Int)<(xs.length:Int))=False:=bL (by omega);have HN:=aa (IN HL fun i hx hy=>fF i (by omega) hx hy);go_wp2_with fail;go_ret;exact cN.yes HN (bS (aS _ _) _)
 ·have p1:((xs.length:Int)==(ys.length:Int))=false:=by rw[bK];omega
  have HN:Hid (¬xs=ys):=aa fun e=>hl (by rw[e])
  clear hl;go_enter func38,ntmps38;go_wp2_with fail;go_ret;exact cN.no HN (aS _ _)
theorem Hc {xs ys:List PM} (h1:fU b1 w v1 xs) (h2:fU b2 w v2 ys) (hn:xs.length≤1099511627776) (hm:ys.length≤1099511627776):
  Calls prog 37 #[v1,v2] w (cN w (xs=ys)):=by
 obtain⟨a1,c1,rfl,lX⟩:=h1;obtain⟨a2,c2,rfl,ng⟩:=h2;have H1:=aa lX;have H2:=aa ng;clear lX ng;by_cases hl:xs.length=ys.length
 ·have HL:=aa hl;rw[←hl]at hm ⊢
  clear hl;go_enter func37,ntmps37;go_wp2_with fail;go_loopw [5] (fun t13 wr=> ∃j q:Nat,Hid (j≤xs.length)∧t13= .int .i64 (j:Int)∧wr=w.drewN q∧Hid (∀i (h:i<j) (hx:i<xs.length) (hy:i<ys.length),xs[i]=ys[i])) (fun t13 _=>xs.length-(intOf t13).toNat)
  case atStart=>exact⟨0,0,aa (aT _),rfl,rfl,aa fun i h=>absurd h (by omega)⟩
  case round=>
   obtain⟨j,q,hj,rfl,rfl,fF⟩:=hrel;by_cases au:j<xs.length
   ·have p1:((j:Int)<(xs.length:Int))=True:=az (by omega);have oe:j<ys.length:=by rw[←HL.out];exact au
    obtain⟨g1,o1,rfl,_,_,x1,x1b,x1c⟩:=H1 j au;obtain⟨g2,o2,rfl,_,_,x2,x2b,x2c⟩:=H2 j oe;generalize hX:xs[j]=x at x1 x1b x1c;generalize hY:ys[j]=y at x2 x2b x2c;have HX:=aa (show xs[j]=x from hX);have HY:=aa hY;clear hX hY;by_cases he:x=y
    ·have HN:Hid (∀i (h:i<j+1) (hx:i<xs.length) (hy:i<ys.length),xs[i]=ys[i]):=aa fun i h hx hy=>by
      by_cases e:i=j
      ·subst e;rw[HX.out,HY.out,he]
      ·exact fF i (by omega) hx hy
     subst he;clear HX HY;obtain⟨n1,WQ,v1⟩:=x;simp only at x1 x1b x1c x2 x2b x2c;go_wp2_with fail;go_quiet (fail);go_wp2_with fail;exact⟨⟨j+1,q+nq,aa au,rfl,rfl,HN⟩,by simp[intOf];omega⟩
    ·have HN:Hid (¬xs=ys):=aa fun e=>he (by rw[←HX.out,←HY.out];subst e;rfl)
     clear HX HY;obtain⟨n1,WQ,v1⟩:=x;obtain⟨n2,p2',v2⟩:=y;simp only at x1 x1b x1c x2 x2b x2c;by_cases h1:n1=n2
     ·subst h1;by_cases h2:WQ=p2'
      ·subst h2;have e1:(v1.toList=v2.toList)=False:=bL fun e=>he (by rw[gN.1 (cn.2 e)])
       clear he;go_wp2_with fail;go_quiet (fail);go_wp2_with fail;go_ret;exact cN.no HN (by rw[jN];exact bS (aS _ _) _)
      ·have e1:(WQ=p2')=False:=bL h2;clear he h2;go_wp2_with fail;go_quiet (fail);go_wp2_with fail;go_ret;exact cN.no HN (by rw[jN];exact bS (aS _ _) _)
     ·have e1:(n1.toList=n2.toList)=False:=bL fun e=>h1 (gN.1 (cn.2 e))
      clear he h1;go_wp2_with fail;go_quiet (fail);go_wp2_with fail;go_ret;exact cN.no HN (by rw[jN];exact bS (aS _ _) _)
   ·have p1:((j:Int)<(xs.length:Int))=False:=bL (by omega);have HN:=aa (IN HL fun i hx hy=>fF i (by omega) hx hy);go_wp2_with fail;go_ret;exact cN.yes HN (bS (aS _ _) _)
 ·have p1:((xs.length:Int)==(ys.length:Int))=false:=by rw[bK];omega
  have HN:Hid (¬xs=ys):=aa fun e=>hl (by rw[e])
  clear hl;go_enter func37,ntmps37;go_wp2_with fail;go_ret;exact cN.no HN (aS _ _)
