import Derived.Test.YtcdoilkjmjbgmaaGreatDoorW05
import Derived.Laws.Bits64b
import Derived.Shelf.Strings.Builder1
import Derived.Shelf.Small.Strs
import Derived.Shelf.Strings.Search1
import Derived.Shelf.Strings.Search2
import Derived.Shelf.Strings.Search3
import Derived.Lib.IndexAny
import Derived.WalkMore
import Derived.ScopeJumps
import Derived.OwnWalk
import Derived.Laws.OwnMore
import Derived.Deep.CutBlock
import Derived.Test.YtcdoilkjmjbgmaaGreatDoorRows
import Derived.SliceStrings
import Derived.Deep.Slices
import Derived.OpenShut
import Derived.Carry
import Derived.StillTailTactics
/- Part of the proof of YtcdoilkjmjbgmaaGreatDoorCardX: OvC OvD OvE OvG RbJ RbI. -/
set_option maxRecDepth 100000
set_option maxHeartbeats 4000000
set_option linter.unusedVariables false
set_option linter.unusedSimpArgs false
namespace Go.Proofs.YtcdoilkjmjbgmaaGreatDoor
open Go.RowKit
open Go.Proofs.Tryz
variable {n m x vn v1 v J K hi lo u d k w drop a b y Z s m1 i j:Nat} {e p e1:Int} {S:cG} {l:List UInt8} {c:UInt8} {tr:Bool}
theorem YY (h:n<9223372036854775808):Te n=n:=by
 unfold Te;rw[td (by omega),show (9223372036854775807:Nat)=2^63-1 by decide,DB,td (by omega)]
theorem ke (h:n<eW):dS n=false:=by
 have h0:n<9218868437227405312:=h;unfold dS;rw[YY (by omega)];have xn:Ieee.double.read 9218868437227405311= .number false 9007199254740991 971:=by decide+kernel
 have hs:Ieee.double.signWeight=9223372036854775808:=by decide+kernel
 have hi:Ieee.double.infRung=9218868437227405312:=by decide+kernel
 have hb:Ieee.double.binade=4503599627370496:=by decide+kernel
 have hp:Ieee.double.leastPlace= -1074:=by decide+kernel
 have hr: ∃m e,Ieee.double.read n= .number false m e∧m≤9007199254740991∧e≤971:=by
  have e1:n/9223372036854775808=0:=tC (by omega);have e2:n%9223372036854775808=n:=td (by omega);unfold Ieee.Format.read;rw[hs,hi,hb,hp,e1,e2];simp only[Nat.zero_mod];split
  ·exact⟨_,_,rfl,by omega,by omega⟩
  ·exact⟨_,_,rfl,by omega,by omega⟩
 obtain⟨m,e,hre,hm,he⟩:=hr;show ((Ieee.double.read n).order (Ieee.double.read 9218868437227405311)==some .gt)=false;rw[hre,xn];simp only[Ieee.Datum.order];rw[Int.min_eq_left he];have hle:Ieee.signed false m (e-e).toNat≤Ieee.signed false 9007199254740991 (971-e).toNat:=by
  unfold Ieee.signed;simp only[lh,iE];rw[show (e-e).toNat=0 by omega,Nat.shiftLeft_zero,Nat.shiftLeft_eq];have:9007199254740991*1≤9007199254740991*2^(971-e).toNat:=uj _ (eX (by omega));omega
 generalize Ieee.signed false m (e-e).toNat=A at hle ⊢
 generalize Ieee.signed false 9007199254740991 (971-e).toNat=B at hle ⊢
 have hc:compare A B≠.gt:=by
  intro hc;have:=Int.compare_eq_gt.1 hc;omega
 cases hcc:compare A B
 ·rfl
 ·rfl
 ·exact absurd hcc hc
theorem uG:dS eW=true:=by decide+kernel
theorem YZ: ∀s:Fin 2048,bits .and .i64 (s.val:Int) 2047=(s.val:Int):=by decide+kernel
theorem qp {x:Int} (hm:m<18446744073709551616) (h0:0≤x) (h1:x≤2046):dS (gF (m:Int) x).toNat=false:=by
 obtain⟨y,rfl⟩: ∃y:Nat,x=(y:Int):=⟨x.toNat,by omega⟩;have e1:=YZ ⟨y,by omega⟩;simp only at e1;have e2:IntKind.u64.wrap (IntKind.u64.wrap (y:Int)*4503599627370496)=((y*4503599627370496:Nat):Int):=by
  rw[cT,cT];omega
 have e3:=bits_and_u64_nat m 4503599627370495 hm (by omega);have e4:m&&&4503599627370495=m%4503599627370496:=by
  rw[show (4503599627370495:Nat)=2^52-1 by decide,DB]
 have au:m%4503599627370496<4503599627370496:=lE _ (by omega);have e5:=bits_or_u64_nat (m%4503599627370496) (y*4503599627370496) (by omega) (by omega);have e6:m%4503599627370496|||y*4503599627370496=y*4503599627370496+m%4503599627370496:=by
  have:=ID (i:=52) (b:=m%4503599627370496) au y;rw[Nat.or_comm,fu y];exact this.symm
 have hf:gF (m:Int) (y:Int)=((y*4503599627370496+m%4503599627370496:Nat):Int):=by
  unfold gF;rw[e1,e2];have e3':bits .and .u64 (m:Int) 4503599627370495=((m%4503599627370496:Nat):Int):=by rw[←e4];exact e3
  rw[e3',e5,e6]
 rw[hf,mq];apply ke;show _<9218868437227405312;omega
theorem xV:dS Bm.1.toNat=true:=by decide+kernel
theorem Vf (S:cG):FJ S<18446744073709551616:=by
 unfold FJ lH;split
 ·omega
 ·split
  ·omega
  ·omega
theorem zt (hm:m<18446744073709551616) (h0: -1022≤e) (h1:e≤1023):(qa m e).2=false∧dS (qa m e).1.toNat=false:=by
 unfold qa;split
 ·exact⟨rfl,qp hm (by omega) (by omega)⟩
 ·exact⟨rfl,qp hm (by omega) (by omega)⟩
theorem zu (h0: -1022≤e):dS (qb S e).1.toNat=(qb S e).2∧((qb S e).2=true↔1024≤e∨(e=1023∧FJ (S.ls 53)=9007199254740992)):=by
 unfold qb;by_cases h1:2047≤e+1023
 ·rw[ar h1];exact⟨xV,⟨fun _=>.inl (by omega),fun _=>rfl⟩⟩
 ·rw[af h1];unfold uw;by_cases h2:FJ (S.ls 53)=9007199254740992
  ·rw[ar h2];by_cases h3:2047≤e+1+1023
   ·rw[ar h3];exact⟨xV,⟨fun _=>.inr ⟨by omega,h2⟩,fun _=>rfl⟩⟩
   ·rw[af h3];obtain⟨a,b⟩:=zt (m:=4503599627370496) (e:=e+1) (by omega) (by omega) (by omega);rw[a,b];refine⟨rfl,⟨fun h=>by simp at h,fun h=>?_⟩⟩;omega
  ·rw[af h2];obtain⟨a,b⟩:=zt (m:=FJ (S.ls 53)) (e:=e) (Vf _) (by omega) (by omega);rw[a,b];refine⟨rfl,⟨fun h=>by simp at h,fun h=>?_⟩⟩;rcases h with h|h
   ·omega
   ·exact absurd h.2 h2
theorem MZ:dS (tJ S e).1.toNat=(tJ S e).2∧((tJ S e).2=true↔1024≤e∨(e=1023∧FJ (S.ls 53)=9007199254740992)):=by
 unfold tJ;by_cases h:e< -1022
 ·rw[ar h];obtain⟨a,b⟩:=zu (S:=cG.Lr (-1022-e).toNat S) (e:= -1022) (by omega);refine⟨a,?_⟩;rw[b];constructor
  ·rintro(h|h)<;>omega
  ·rintro(h|h)<;>omega
 ·rw[af h];exact zu (by omega)
theorem O2: ∀(f:Nat) (S:cG) (e:Int),(zJ f S e).2≤e
 |0,S,e=>by simp[zJ]
 |f+1,S,e=>by
  by_cases hl:yL S
  ·rw[BF hl];have:=O2 f (S.ls (gE (-S.dp).toNat)) (e-gE (-S.dp).toNat);omega
  ·rw[Gu hl];exact Int.le_refl _
theorem Y0 {R:Prop} (a b c p g x e:Nat) (hb:b=a+1) (aM:b=54+c) (hc:c=p+g) (hg:3≤g) (he:e=54+x)
  (Aq:10^b≤2*vn) (sW:vn<10^b) (hS1:10^a≤v1) (j5:vn=v1*2^J) (k4: ∀X,10^p ∣ X→(X≤v1↔X*2^K≤v)) (DJ:R↔(2^54-1)*5^54*10^c≤vn):
  (K<J+e→ ¬(2^54-1)*2^x*10^b≤v)∧(K=J+e→(R↔(2^54-1)*2^x*10^b≤v))∧(J+e<K→(2^54-1)*2^x*10^b≤v):=by
 have hJ:J<4:=by
  rcases dD J 4 with h|h
  ·exact h
  ·exfalso;have h16:2^4≤2^J:=ee (by omega) h;have h1:=acf hS1 h16;rw[←j5]at h1;rw[afo a b hb]at sW;generalize 10^a=P at h1 sW;omega
 have hP:0<2^J:=eX (by omega);have key: ∀t,t*10^c≤vn↔t*10^c*2^K≤v*2^J:=fun t=>by
  obtain⟨d,hd⟩:=acd J t p g c hc (by omega);have hT:t*10^c=10^p*d*2^J:=by rw[hd];simp only[bV,fu,qD]
  have k5:=k4 (10^p*d) (Nat.dvd_mul_right _ _);rw[hT,j5];generalize 10^p*d=X at k5;rw[yu hP,k5,yw X,yu hP]
 have Lu:=OW 54 c b aM;have A:5*10^53*10^c*2^K≤v*2^J:=by
  rw[←key];have:5*10^53*10^c*2=(10:Nat)^b:=by
   rw[Lu,show (10:Nat)^54=10^53*10 by rw[←ef]];generalize (10:Nat)^53=u;generalize (10:Nat)^c=z;rw[show u*10*z=5*u*2*z by rw[show 5*u*2=u*10 by omega]];rw[yw]
  omega
 have B:v*2^J<10^54*10^c*2^K:=by
  rcases dD (v*2^J) (10^54*10^c*2^K)with h|h
  ·exact h
  ·have:=(key (10^54)).2 h;rw[←Lu]at this;omega
 have C:=key ((2^54-1)*5^54);rw[←DJ]at C;rw[Lu];have e54:(2:Nat)^e=2^54*2^x:=by rw[he,dX]
 have akH:(10:Nat)^54=5^54*2^54:=by rw[←Bh]
 refine⟨fun hK hh=>?_,fun hK=>?_,fun hK=>?_⟩
 ·have h1:(10:Nat)^54*10^c*2^K≤10^54*10^c*2^(J+53+x):=uj _ (ee (by omega) (by omega));have h2:(2:Nat)^(J+53+x)=2^53*2^x*2^J:=by rw[←dX,←dX,show 53+x+J=J+53+x by omega]
  have h3:(2^54-1)*2^x*(10^54*10^c)*2^J≤v*2^J:=fc _ hh;rw[h2]at h1;generalize (10:Nat)^54*10^c=u at B h1 h3;generalize (2:Nat)^J=j at B h1 h3;generalize (2:Nat)^x=y at h1 h3;have h4:(2^54-1)*y*u*j<u*(2^53*y*j):=by omega
  have h5:u*(2^53*y*j)≤(2^54-1)*y*u*j:=by
   have e1:u*(2^53*y*j)=2^53*(y*u*j):=by simp only[bV,fu,qD]
   have e2:(2^54-1)*y*u*j=(2^54-1)*(y*u*j):=by simp only[bV]
   rw[e1,e2];exact fc _ (by decide)
  omega
 ·have h1:(2^54-1)*5^54*10^c*2^K=(2^54-1)*2^x*(10^54*10^c)*2^J:=by
   rw[hK,Bg J e,dX,e54,akH];simp only[bV,fu,qD]
  rw[C,h1,yu hP]
 ·have h1:5*10^53*10^c*2^(J+e+1)≤v*2^J:=bn (uj _ (ee (by omega) (by omega))) A;have h2:(2:Nat)^(J+e+1)=2*(2^54*2^x)*2^J:=by rw[←e54,←Be,←dX,show e+1+J=J+e+1 by omega]
  rw[h2,←bV,yu hP]at h1;refine bn ?_ h1;rw[show (10:Nat)^54=10^53*10 by rw[←ef]];generalize (10:Nat)^53=u;generalize (10:Nat)^c=z;generalize (2:Nat)^x=y;have e1:5*u*z*(2*(2^54*y))=2^54*(y*(u*10*z)):=by
   rw[show u*10=5*u*2 by omega];simp only[bV,fu,qD]
  rw[e1,bV];exact fc _ (by decide)
theorem Vg (ok:S.Ok):dS (FK S).1.toNat=(FK S).2∧((FK S).2=true↔310<S.dp∨(0≤S.dp∧S.dp≤310∧(2^54-1)*2^970*10^800≤vF S)):=by
 have hn: ¬S.nd=0:=by have:=ok.pos;omega
 unfold FK;rw[af hn];by_cases h1:310<S.dp
 ·rw[ar h1];exact⟨xV,⟨fun _=>.inl h1,fun _=>rfl⟩⟩
 ·rw[af h1];by_cases h2:S.dp< -330
  ·rw[ar h2];have:=qp (m:=0) (x:=0) (by omega) (by omega) (by omega);refine⟨this,?_⟩;simp only[lh,false_iff];omega
  ·rw[af h2];obtain⟨a,b⟩:=MZ (S:=(zJ 34000 (uc 1000 S 0).1 (uc 1000 S 0).2).1) (e:=(zJ 34000 (uc 1000 S 0).1 (uc 1000 S 0).2).2-1);refine⟨a,?_⟩;rw[b];by_cases h3:S.dp<0
   ·rw[Gt (by omega)];have:=O2 34000 S 0;simp only;constructor
    ·rintro(h|h)<;>omega
    ·rintro(h|h)<;>omega
   ·have hD:=ok.gQ.1 0 ok.pos;obtain⟨K,k1,k2,k3,k4⟩:=JA 1000 S 0 ok (by omega) (by omega) (by unfold ZN;split<;>omega);have tl:SO (uc 1000 S 0).1≤34000:=by unfold SO;rw[af (by omega)];omega
    obtain⟨J,j1,j2,j3,j4,j5⟩:=E5 34000 (uc 1000 S 0).1 (uc 1000 S 0).2 k2 k3 tl;have DJ:=YK j2 j3 j4;have hE:(zJ 34000 (uc 1000 S 0).1 (uc 1000 S 0).2).2-1=(K:Int)-J-1:=by rw[j1,k1];omega
    rw[hE];generalize (zJ 34000 (uc 1000 S 0).1 (uc 1000 S 0).2).1=Sn at j2 j3 j4 j5 DJ ⊢
    generalize (uc 1000 S 0).1=S1 at k2 k3 k4 j5;have hl:=OX j2;have sX:=j2.pos;have hle:=j2.le;have hAA:10^Sn.nd=10*10^(Sn.nd-1):=by rw[←Be];congr 1;omega
    have e8:(10:Nat)^Sn.nd*10^(800-Sn.nd)=10^800:=by rw[←dX];congr 1;omega
    have hvn:vF Sn=pre Sn.D Sn.nd Sn.nd*10^(800-Sn.nd):=by rw[vF,j3];simp
    have hD9:=j2.gQ.1 0 sX;have Aq:10^800≤2*vF Sn:=by
     rw[←e8,hvn,←bV];apply fc;have:5*10^(Sn.nd-1)≤(Sn.D 0-48)*10^(Sn.nd-1):=fc _ (by omega);omega
    have sW:vF Sn<10^800:=by
     rw[←e8,hvn];exact qU (xE j2.gQ Sn.nd) (eX (by omega))
    have hS1:10^799≤vF S1:=by
     have Z2:=lN k2.gQ k2.pos (S1.nd-1);have hp1:=k2.pos;have asv:=k2.le;rw[IK hp1]at Z2;have e9:(10:Nat)^(S1.nd-1)*10^(800-S1.nd)=10^799:=by rw[←dX];congr 1;omega
     rw[vF,k3,←e9,show 800+(0:Int).toNat-S1.nd=800-S1.nd by simp];exact fc _ Z2
    obtain⟨t1,t2,t3⟩:=Y0 (R:=FJ (Sn.ls 53)=9007199254740992) 799 800 746 310 436 970 1024 rfl rfl rfl (by omega) rfl Aq sW hS1 j5 k4 DJ;rcases Et K (J+1024)with hK|hK|hK
    ·have akI:=t1 hK;constructor
     ·rintro(h|h)<;>omega
     ·rintro(h|⟨_,_,h⟩)
      ·omega
      ·exact absurd h akI
    ·rw[←t2 hK];constructor
     ·rintro(h|h)
      ·omega
      ·exact .inr ⟨by omega,by omega,h.2⟩
     ·rintro(h|⟨_,_,h⟩)
      ·omega
      ·exact .inr ⟨by omega,h⟩
    ·have akJ:=t3 hK;constructor
     ·rintro _;exact .inr ⟨by omega,by omega,akJ⟩
     ·rintro _;exact .inl (by omega)
def Hv:Nat:=36028797018963966
theorem jZ (a:Nat):a|||1≤a+1:=by
 have h:a|||1=a/2*2+1:=by
  have h2:a/2*2+1=2^1*(a/2)+1:=by omega
  rw[h2,ID (by omega)];apply Nat.eq_of_testBit_eq;intro i;rw[Nat.testBit_or,Nat.testBit_or];cases i with
  |zero=>simp
  |succ i=>
   have e1:(2^1*(a/2)).testBit (i+1)=a.testBit (i+1):=by
    rw[Nat.testBit_two_pow_mul];simp[Nat.testBit_succ]
   rw[e1]
 omega
theorem j0 (a:Nat):a≤a|||1:=Nat.left_le_or
theorem kf (a:Nat):(a|||1)%2=1:=by
 simp
theorem Fj (a:Nat) {c:Nat} (h:c≤1):a≤a|||c∧a|||c≤a|||1:=by
 have:c=0∨c=1:=by omega
 rcases this with rfl|rfl
 ·rw[Nat.or_zero];exact⟨aP _,j0 a⟩
 ·exact⟨j0 a,aP _⟩
theorem xW (x hi lo s:Nat):(x*hi/18446744073709551616-1)/2^s≤gK x hi lo s∧gK x hi lo s≤(x*hi/18446744073709551616/2^s)|||1:=by
 unfold gK;obtain⟨y,hy⟩: ∃y,y=x*hi/18446744073709551616:=⟨_,rfl⟩;rw[←hy];split
 ·exact⟨bn (Ep (Nat.sub_le _ _)) (j0 _),aP _⟩
 ·obtain⟨b,hb,aU⟩: ∃b,b=(if x*hi%18446744073709551616<x*lo/18446744073709551616 then 1 else 0)∧b≤1:=⟨_,rfl,by split<;>omega⟩;obtain⟨c,hc,lX⟩: ∃c,c=(if 1<(x*hi%18446744073709551616+18446744073709551616-x*lo/18446744073709551616)%18446744073709551616 then 1 else 0)∧c≤1:=⟨_,rfl,by split<;>omega⟩;rw[←hb,←hc];obtain⟨h1,h2⟩:=Fj ((y-b)/2^s) lX;refine⟨bn (Ep (by omega)) h1,bn h2 ?_⟩;have h3:(y-b)/2^s≤y/2^s:=Ep (Nat.sub_le _ _);have h4:=kf ((y-b)/2^s);have h5:=kf (y/2^s);have h6:=jZ ((y-b)/2^s);have h7:=j0 (y/2^s);omega
theorem agH (h:256*Hv+1≤x*hi/18446744073709551616):Hv≤gK x hi lo 8:=by
 unfold gK;have e:(2:Nat)^8=256:=by decide
 rw[e];obtain⟨y,hy⟩: ∃y,y=x*hi/18446744073709551616:=⟨_,rfl⟩;rw[←hy]at h ⊢
 unfold Hv at*
 split
 ·exact bn (by omega) (j0 _)
 ·rename_i hm;refine bn ?_ Nat.left_le_or;split<;>omega
theorem aa1 (h:x*hi/18446744073709551616<256*Hv):gK x hi lo 8<Hv:=by
 have hb:=(xW x hi lo 8).2;have e:(2:Nat)^8=256:=by decide
 rw[e]at hb;have h1:=kf (x*hi/18446744073709551616/256);have h2:=jZ (x*hi/18446744073709551616/256);unfold Hv at*
 generalize x*hi/18446744073709551616=y at*
 omega
def pF:Nat:=(2^54-1)*2^970
def SW (p:Nat):Nat:=(pF+10^p-1)/10^p
theorem O3 (p d:Nat):pF≤d*10^p↔SW p≤d:=by
 have hP:0<10^p:=eX (by omega);unfold SW;generalize 10^p=P at hP ⊢
 generalize pF=N;rw[Nat.div_le_iff_le_mul_add_pred hP,fu P d];omega
def TL (p : Nat) : Bool :=
  let L:=1024-(p*108853/32768)
  let T:=SW p
  decide (p*108853/32768≤1023)&&decide (1≤L)&&decide (L≤61)&&decide (2^(L-1)≤T)&&decide (T≤2^L)&&
  decide ((T-1)*2^(64-L)*dY p/18446744073709551616<256*Hv)&&
  (if p = 290 then decide (Hv ≤ gK (T * 2 ^ (64 - L)) (dY p) (kO p) 8) && decide (256 * Hv + 1 ≤ (T + 1) * 2 ^ (64 - L) * dY p / 18446744073709551616)
   else decide (256*Hv+1≤T*2^(64-L)*dY p/18446744073709551616))
theorem QZ:((List.range 19).all fun i=>TL (290+i))=true:=by kernel_rfl
def akK:Bool:=Pinned.pow10Rows.all fun r=>decide (9223372036854775808≤r.1)&&decide (r.1≤18446744073709551616-18014398509481984)
theorem Vh:akK=true:=by kernel_rfl
theorem agJ:Pinned.pow10Rows.length=696:=by kernel_rfl
theorem wW (h0: -348≤p) (h1:p≤347):9223372036854775808≤dY p∧dY p≤18446744073709551616-18014398509481984:=by
 have hl:=agJ;have hi:(p+348).toNat<Pinned.pow10Rows.length:=by omega
 unfold dY;rw[lf,lB hi,Option.getD_some];have:=rl.1 Vh _ (gj hi);simp only[kF,uk]at this;exact this
theorem agK:10000000000000000000*dY ((289:Nat):Int)/18446744073709551616<256*Hv:=by decide+kernel
theorem aco:10000000000000000000<SW 289:=by decide+kernel
theorem agL:SW 309≤1∧SW 310≤1:=by decide+kernel
theorem agM:10000000000000000000*10^288<pF:=by decide+kernel
theorem agN (h0:4503599627370496≤m) (h1:m<9007199254740992):m&&&4503599627370496≠0:=by
 intro h;have h2:(m&&&2^52).testBit 52=false:=by
  rw[show (2:Nat)^52=4503599627370496 by decide,h];simp
 rw[Nat.testBit_and,Nat.testBit_two_pow_self,Bool.and_true]at h2;have h3:m.testBit 52=true:=by
  rw[Nat.testBit_eq_decide_div_mod_eq,zT];rw[show (2:Nat)^52=4503599627370496 by decide];omega
 rw[h3]at h2;cases h2
theorem Fk (hm:m<9007199254740992) (h0: -1074≤e) (h1:e≤971):lG m e<eW:=by
 unfold lG;split
 ·show m<9218868437227405312;omega
 ·rw[af (by omega)];have hc:m&&&18442240474082181119=m%4503599627370496:=by
   have e1:m=m&&&(2^53-1):=by rw[DB];exact(td (by simpa using hm)).symm
   conv=>lhs;rw[e1]
   rw[Nat.and_assoc,show (2^53-1:Nat)&&&18442240474082181119=2^52-1 by decide,DB]
  obtain⟨k,hk⟩: ∃k:Nat,k=(1075+e).toNat:=⟨_,rfl⟩;have zM:k≤2046:=by omega
  rw[hc,←hk,td (show k*4503599627370496<18446744073709551616 by omega)];have au:m%4503599627370496<4503599627370496:=lE _ (by omega);have e6:m%4503599627370496|||k*4503599627370496=k*4503599627370496+m%4503599627370496:=by
   have:=ID (i:=52) (b:=m%4503599627370496) au k;rw[Nat.or_comm,fu k];exact this.symm
  rw[e6];show _<9218868437227405312;omega
theorem Cy (h1:u<72057594037927936-1024):PE u<9007199254740992∧(18014398509481983≤u→4503599627370496≤PE u):=by
 unfold PE xD;have ha:u&&&1≤1:=by rw[Ow];omega
 obtain⟨b1,b2⟩:=Fj (u/2^si u) ha;have b3:=jZ (u/2^si u);have b4:=kf (u/2^si u);obtain⟨v,hv⟩: ∃v,v=u/2^si u|||(u&&&1):=⟨_,rfl⟩;rw[←hv]at b1 b2 ⊢
 have hc:v/4&&&1≤1:=by rw[Ow];omega
 obtain⟨c,hcc⟩: ∃c,c=v/4&&&1:=⟨_,rfl⟩;rw[←hcc]at hc ⊢
 by_cases ht:36028797018963966≤u
 ·have e:si u=1:=ar ht;rw[e,Nat.pow_one]at b1 b2 b3 b4;omega
 ·have e:si u=0:=af ht;rw[e,pK,Nat.div_one]at b1 b2 b3 b4;omega
theorem zv (h:0<d):2^d.log2≤d∧d<2^(d.log2+1):=⟨Nat.log2_self_le (by omega),A9⟩
theorem Q0 (hd:0<d) (pE:d≤10000000000000000000) (h0: -345≤p) (h1:p≤310):dS (lk d p)=true↔0≤p∧SW p.toNat≤d:=by
 obtain⟨l1,l2⟩:=zv hd;obtain⟨g,hg⟩: ∃g,g=d.log2:=⟨_,rfl⟩;rw[←hg]at l1 l2;have akL:g≤63:=by
  rcases dD 63 g with h|h
  ·have:2^64≤2^g:=ee (by omega) h;omega
  ·exact h
 obtain⟨q1,q2⟩:=wW (p:=p) (by omega) (by omega);obtain⟨x,hx⟩: ∃x,x=d*2^(63-g):=⟨_,rfl⟩;have lg:9223372036854775808≤x:=by
  have:2^g*2^(63-g)≤d*2^(63-g):=fc _ l1;rw[←dX,show g+(63-g)=63 by omega]at this;rw[hx];simpa using this
 have ml:x<18446744073709551616:=by
  have:d*2^(63-g)<2^(g+1)*2^(63-g):=qU l2 (eX (by omega));rw[←dX,show g+1+(63-g)=64 by omega]at this;rw[hx];simpa using this
 obtain⟨A,hA⟩: ∃A:Int,A=((g+1:Nat):Int)+kN p:=⟨_,rfl⟩;have hE:Dq d p=min 1074 (53-A):=by rw[Dq,←hg,hA];congr 1;omega
 have hS:uX d p=61-(Dq d p+A):=by rw[uX,←hg,hA];omega
 obtain⟨y,hy⟩: ∃y,y=x*dY p/18446744073709551616:=⟨_,rfl⟩;have hy2:y<18446744073709551616-18014398509481984:=by
  have:x*dY p<18446744073709551616*dY p:=qU ml (by omega);omega
 have hy1:4611686018427387904≤y:=by
  have:9223372036854775808*9223372036854775808≤x*dY p:=oH lg q1;omega
 have hU:Lo d p=gK x (dY p) (kO p) (uX d p).toNat:=by rw[Lo,←hg,←hx]
 obtain⟨u1,u2⟩:=xW x (dY p) (kO p) (uX d p).toNat;rw[←hU,←hy]at u1 u2;obtain⟨u,hu⟩: ∃u,u=Lo d p:=⟨_,rfl⟩;rw[←hu]at u1 u2 hU;have hs8:8≤uX d p:=by rw[hS,hE];omega
 have hp8:(2:Nat)^8≤2^(uX d p).toNat:=ee (by omega) (by omega);have K9:u<72057594037927936-1024:=by
  have h2:y/2^(uX d p).toNat≤y/2^8:=Ot hp8 (by decide);have h3:=jZ (y/2^(uX d p).toNat);have e:(2:Nat)^8=256:=by decide
  rw[e]at h2;omega
 obtain⟨m1,m2⟩:=Cy K9;have ht:si u=0∨si u=1:=by unfold si;split<;>simp
 have akM:dS (lk d p)=true↔1025≤A+si u:=by
  unfold lk;rw[←hu];by_cases iJ:64≤uX d p
  ·rw[ar iJ];have:dS 0=false:=ke (by decide);rw[this];rw[hS,hE]at iJ;simp only[lh,false_iff];omega
  ·rw[af iJ];by_cases hc:1025≤A+si u
   ·have h8:(uX d p).toNat=8:=by rw[hS,hE];omega
    have e:(2:Nat)^8=256:=by decide
    rw[h8,e]at u1;have m3:=m2 (by omega);have:lG (PE u) (-(Dq d p-(si u:Int)))=eW:=by
     unfold lG;rw[af (agN m3 m1),ar (by rw[hE];omega)];rfl
    rw[this,uG];simp[hc]
   ·have:lG (PE u) (-(Dq d p-(si u:Int)))<eW:=Fk m1 (by rw[hE];omega) (by rw[hE];omega);rw[ke this];simp[hc]
 rw[akM];have htu:si u=1↔Hv≤u:=by
  unfold si Hv;split<;>simp<;>omega
 have hlp:kN p=p*108853/32768:=rfl;by_cases asw:p<0
 ·have:A+si u<1025:=by rw[hA,hlp];omega
  constructor
  ·intro h;omega
  ·rintro⟨h,_⟩;omega
 ·obtain⟨n,rfl⟩: ∃n:Nat,p=(n:Int):=⟨p.toNat,by omega⟩;rw[mq];have hAn:A=((g+1+n*108853/32768:Nat):Int):=by rw[hA,hlp];omega
  have h8s:A=1024→(uX d (n:Int)).toNat=8:=fun h=>by rw[hS,hE];omega
  by_cases c1:n≤288
  ·have tw: ¬SW n≤d:=by
    rw[←O3];have h0:=Ox n 288 c1;have h2:=agM;generalize 10^288=Q at h0 h2;generalize 10^n=P at h0 ⊢
    have h1:d*P≤10000000000000000000*Q:=oH pE h0;omega
   constructor
   ·intro h;omega
   ·rintro⟨_,h⟩;exact absurd h tw
  ·by_cases c2:n=289
   ·subst c2;have tw: ¬SW 289≤d:=by have:=aco;omega
    constructor
    ·intro h;have Z3:A=1024:=by omega
     have ht1:si u=1:=by omega
     have hx3:x=d:=by rw[hx,show 63-g=0 by omega,pK,oC]
     have au:x*dY ((289:Nat):Int)/18446744073709551616<256*Hv:=by
      refine pI (Ep (fc _ ?_)) agK;omega
     have h2:=aa1 (lo:=kO ((289:Nat):Int)) au;rw[h8s Z3]at hU;rw[←hU]at h2;have:=htu.1 ht1;omega
    ·rintro⟨_,h⟩;exact absurd h tw
   ·by_cases c3:n≤308
    ·have afB:TL n=true:=by
      have:=rl.1 QZ (n-290) (qF.2 (by omega))
      rwa [show 290+(n-290)=n by omega]at this
     simp only[TL,kF,uk]at afB;obtain⟨⟨⟨⟨⟨⟨k1,k2⟩,k3⟩,k4⟩,k5⟩,k6⟩,k7⟩:=afB;obtain⟨Lp,hLp⟩: ∃Lp,Lp=1024-n*108853/32768:=⟨_,rfl⟩;obtain⟨Tp,hTp⟩: ∃Tp,Tp=SW n:=⟨_,rfl⟩;rw[←hLp,←hTp]at k4 k6;rw[←hLp]at k2 k3;rw[←hLp,←hTp]at k5 k7;rw[←hTp];rcases Et (g+1) Lp with hL|hL|hL
     ·
      have h1:2^(g+1)≤2^(Lp-1):=ee (by omega) (by omega);constructor
      ·intro h;omega
      ·rintro⟨_,h⟩;omega
     ·
      have Z3:A=1024:=by omega
      have hx3:x=d*2^(64-Lp):=by rw[hx];congr 2;omega
      rw[h8s Z3]at hU;constructor
      ·intro h;refine⟨by omega,?_⟩;rcases dD d Tp with au|lW
       ·exfalso;have hy3:x*dY (n:Int)/18446744073709551616<256*Hv:=by
         refine pI (Ep (fc _ ?_)) k6;rw[hx3];exact fc _ (by omega)
        have h2:=aa1 (lo:=kO (n:Int)) hy3;rw[←hU]at h2;have:=htu.1 (by omega);omega
       ·exact lW
      ·rintro⟨_,h⟩;have lW:Hv≤u:=by
        rw[hU];have up: ∀T,T≤d→256*Hv+1≤T*2^(64-Lp)*dY (n:Int)/18446744073709551616→Hv≤gK x (dY (n:Int)) (kO (n:Int)) 8:=fun T hT hk=>by
         refine agH (bn hk (Ep (fc _ ?_)));rw[hx3];exact fc _ hT
        by_cases afC:n=290
        ·rw[ar afC]at k7;simp only[kF,uk]at k7;rcases dD Tp d with au|lW
         ·exact up (Tp+1) au k7.2
         ·have:d=Tp:=by omega
          rw[hx3,this];exact k7.1
        ·rw[af afC]at k7;exact up Tp h (nY k7)
       have:=htu.2 lW;omega
     ·
      have h1:2^Lp≤2^g:=ee (by omega) (by omega);constructor
      ·intro _;exact⟨by omega,by omega⟩
      ·intro _;omega
    ·have hT:SW n≤1:=by
      have:=agL;have hn:n=309∨n=310:=by omega
      rcases hn with rfl|rfl
      ·exact this.1
      ·exact this.2
     constructor
     ·intro _;exact⟨by omega,by omega⟩
     ·intro _;omega
theorem O4 (hd:0<d) (pE:d≤10000000000000000000) (h0: -345≤p) (h1:p≤310):lk d p≤eW:=by
 obtain⟨l1,l2⟩:=zv hd;obtain⟨g,hg⟩: ∃g,g=d.log2:=⟨_,rfl⟩;rw[←hg]at l1 l2;have akL:g≤63:=by
  rcases dD 63 g with h|h
  ·have:2^64≤2^g:=ee (by omega) h;omega
  ·exact h
 obtain⟨q1,q2⟩:=wW (p:=p) (by omega) (by omega);obtain⟨x,hx⟩: ∃x,x=d*2^(63-g):=⟨_,rfl⟩;have lg:9223372036854775808≤x:=by
  have:2^g*2^(63-g)≤d*2^(63-g):=fc _ l1;rw[←dX,show g+(63-g)=63 by omega]at this;rw[hx];simpa using this
 have ml:x<18446744073709551616:=by
  have:d*2^(63-g)<2^(g+1)*2^(63-g):=qU l2 (eX (by omega));rw[←dX,show g+1+(63-g)=64 by omega]at this;rw[hx];simpa using this
 obtain⟨A,hA⟩: ∃A:Int,A=((g+1:Nat):Int)+kN p:=⟨_,rfl⟩;have hE:Dq d p=min 1074 (53-A):=by rw[Dq,←hg,hA];congr 1;omega
 have hS:uX d p=61-(Dq d p+A):=by rw[uX,←hg,hA];omega
 obtain⟨y,hy⟩: ∃y,y=x*dY p/18446744073709551616:=⟨_,rfl⟩;have hy2:y<18446744073709551616-18014398509481984:=by
  have:x*dY p<18446744073709551616*dY p:=qU ml (by omega);omega
 have hy1:4611686018427387904≤y:=by
  have:9223372036854775808*9223372036854775808≤x*dY p:=oH lg q1;omega
 have hU:Lo d p=gK x (dY p) (kO p) (uX d p).toNat:=by rw[Lo,←hg,←hx]
 obtain⟨u1,u2⟩:=xW x (dY p) (kO p) (uX d p).toNat;rw[←hU,←hy]at u1 u2;obtain⟨u,hu⟩: ∃u,u=Lo d p:=⟨_,rfl⟩;rw[←hu]at u1 u2 hU;have hs8:8≤uX d p:=by rw[hS,hE];omega
 have hp8:(2:Nat)^8≤2^(uX d p).toNat:=ee (by omega) (by omega);have K9:u<72057594037927936-1024:=by
  have h2:y/2^(uX d p).toNat≤y/2^8:=Ot hp8 (by decide);have h3:=jZ (y/2^(uX d p).toNat);have e:(2:Nat)^8=256:=by decide
  rw[e]at h2;omega
 obtain⟨m1,m2⟩:=Cy K9;have ht:si u=0∨si u=1:=by unfold si;split<;>simp
 unfold lk;rw[←hu];by_cases iJ:64≤uX d p
 ·rw[ar iJ];exact aT _
 ·rw[af iJ];by_cases hc:972≤ -(Dq d p-(si u:Int))
  ·unfold lG;split
   ·show PE u≤9218868437227405312;omega
   ·first|exact aP _|(rw[ar hc];exact aP _)
  ·exact jt (Fk m1 (by rw[hE];omega) (by omega))
theorem uH:Ieee.double.signWeight=9223372036854775808∧Ieee.double.infRung=9218868437227405312∧Ieee.double.binade=4503599627370496∧Ieee.double.leastPlace= -1074∧Ieee.double.fractionBits=52:=by decide+kernel
theorem log2_lt (h:m<2^(k+1)):m.log2≤k:=by
 rcases jK m with h0|h0
 ·rw[h0];simp
 ·have h1:=Nat.log2_self_le (n:=m) (by omega);rcases dD k m.log2 with hh|hh
  ·have:2^(k+1)≤2^m.log2:=ee (by omega) hh;omega
  ·exact hh
theorem BU (hk:k≤1000) (h:w≤(1023+k)*4503599627370496): ∃m e,Ieee.double.read w= .number false m e∧(m.log2:Int)+e≤k:=by
 obtain⟨hs,hi,hb,hp,_⟩:=uH;have e1:w/9223372036854775808=0:=tC (by omega);have e2:w%9223372036854775808=w:=td (by omega);unfold Ieee.Format.read;rw[hs,hi,hb,hp,e1,e2];simp only[Nat.zero_mod];split
 ·rename_i au;have:=log2_lt (m:=w) (k:=51) (by omega);exact⟨_,_,rfl,by omega⟩
 ·rw[ar (by omega)];have:=log2_lt (m:=4503599627370496+w%4503599627370496) (k:=52) (by omega);exact⟨_,_,rfl,by omega⟩
theorem acp (h:n<2^(53+drop)):Ieee.Toward.even.cut false n drop≤9007199254740992:=by
 have e53:(2:Nat)^53=9007199254740992:=by decide
 unfold Ieee.Toward.cut;simp only[Nat.one_shiftLeft];have hb (b:Bool):b.toNat≤1:=by cases b<;>decide
 rcases dD (n.log2+2) drop with hd|hd
 ·rw[qE (by omega)];have h2:=A9 (n:=n);have h3:n/2^(n.log2+2)=0:=tC (gO h2 (ee (by omega) (by omega)));rw[h3];have:=hb (decide (2^(n.log2+2)<2*(n%2^(n.log2+2)))||2^(n.log2+2)==2*(n%2^(n.log2+2))&&0%2==1);omega
 ·rw[mr hd];have h3:n/2^drop<2^53:=by
   rw[zR (eX (by omega)),←dX];exact h
  have:=hb (decide (2^drop<2*(n%2^drop))||2^drop==2*(n%2^drop)&&n/2^drop%2==1);omega
theorem rZ (h:(m.log2:Int)+e≤k):Ieee.double.nearest false m e≤(1024+k)*4503599627370496:=by
 obtain⟨hs,hi,hb,hp,hf⟩:=uH;unfold Ieee.Format.nearest;split
 ·simp[Ieee.Format.word]
 ·rw[hi,hb,hp,hf];simp only[Ieee.Format.word,lh,iE];obtain⟨last,hl⟩: ∃last:Int,last=max (e+(m.log2:Int)-((52:Nat):Int)) (-1074):=⟨_,rfl⟩;rw[←hl];have hm:=A9 (n:=m);have hc:Ieee.Toward.even.cut false (m<<<(e-last).toNat) (last-e).toNat≤9007199254740992:=by
   apply acp;rw[Nat.shiftLeft_eq];have h1:m*2^(e-last).toNat<2^(m.log2+1)*2^(e-last).toNat:=qU hm (eX (by omega));rw[←dX]at h1;exact gO h1 (ee (by omega) (by omega))
  refine bn (Nat.min_le_left _ _) ?_;have h5:(last+1074).toNat≤1022+k:=by omega
  have h6:(last- -1074).toNat=(last+1074).toNat:=by omega
  rw[h6];have h7:(last+1074).toNat*4503599627370496≤(1022+k)*4503599627370496:=fc _ h5;generalize Ieee.Toward.even.cut false (m<<<(e-last).toNat) (last-e).toNat=c at hc ⊢
  have h8:(1024+k)*4503599627370496=(1022+k)*4503599627370496+9007199254740992:=by rw[show 1024+k=(1022+k)+2 by omega,oK]
  rw[h8];exact Nat.add_le_add h7 hc
theorem Vi:(m*n).log2≤m.log2+n.log2+1:=by
 have h1:=A9 (n:=m);have h2:=A9 (n:=n);apply log2_lt;have:m*n<2^(m.log2+1)*2^(n.log2+1):=Ex h1 h2;rw[←dX]at this;exact gO this (ee (by omega) (by omega))
theorem O5 (ha:a≤1000) (hb:b≤1000) (hx:x≤(1023+a)*4503599627370496) (hy:y≤(1023+b)*4503599627370496):ve x y≤(1023+(a+b+2))*4503599627370496:=by
 obtain⟨m,i,hm,tl⟩:=BU ha hx;obtain⟨n,j,hn,xf⟩:=BU hb hy;have LJ:floatBits .mul .f64 x y=((Ieee.double.read x).product (Ieee.double.read y)).map Ieee.double.write:=rfl;unfold ve;rw[LJ,hm,hn];show Ieee.double.nearest (false^^false) (m*n) (i+j)≤_;have h3:=Vi (m:=m) (n:=n);have:=rZ (m:=m*n) (e:=i+j) (k:=a+b+1) (by omega);rw[show 1023+(a+b+2)=1024+(a+b+1)by omega];exact this
theorem GB: ∀k,k<23→ff k≤(1023+74)*4503599627370496∧(match Ieee.double.read (ff k)with| .number false n j=>decide (n≠0)&&decide (0≤(n.log2:Int)+j)|_=>false)=true:=by decide+kernel
theorem Y1 (ha:a≤1000) (hx:x≤(1023+a)*4503599627370496) (hk:k<23):F1 x (ff k)≤(1023+(a+1))*4503599627370496:=by
 obtain⟨m,i,hm,tl⟩:=BU ha hx;have hp:=(GB k hk).2;have LJ:floatBits .quo .f64 x (ff k)=((Ieee.double.read x).quotient (Ieee.double.fractionBits+2) (Ieee.double.read (ff k))).map Ieee.double.write:=rfl;unfold F1;rw[LJ,hm];split at hp
 ·rename_i n j hn;simp only[kF,uk]at hp;rw[hn];simp only[Ieee.Datum.quotient,af hp.1];obtain⟨more,aa2⟩: ∃more,more=Ieee.double.fractionBits+2+n.log2-m.log2:=⟨_,rfl⟩;rw[←aa2];have hf:Ieee.double.fractionBits=52:=rfl;rw[hf]at aa2;show Ieee.double.nearest (false^^false) (2*(m<<<more/n)+(m<<<more%n != 0).toNat) (i-j-more-1)≤_;have hq:(2*(m<<<more/n)+(m<<<more%n != 0).toNat).log2≤m.log2+more-n.log2+1:=by
   apply log2_lt;have h1:=A9 (n:=m);have h2:=Nat.log2_self_le (n:=n) hp.1;have h3:m<<<more<2^(m.log2+1+more-n.log2)*n:=by
    rw[Nat.shiftLeft_eq];have h4:m*2^more<2^(m.log2+1)*2^more:=qU h1 (eX (by omega));have h5:2^(m.log2+1)*2^more=2^(m.log2+1+more-n.log2)*2^n.log2:=by rw[←dX,←dX];congr 1;omega
    have h6:2^(m.log2+1+more-n.log2)*2^n.log2≤2^(m.log2+1+more-n.log2)*n:=uj _ h2;omega
   have h7:m<<<more/n<2^(m.log2+1+more-n.log2):=(zR (by omega)).2 h3;have h8:(m<<<more%n != 0).toNat≤1:=by cases (m<<<more%n != 0)<;>decide
   have h9:(2:Nat)^(m.log2+more-n.log2+1+1)=2*2^(m.log2+1+more-n.log2):=by rw[←Be];congr 1;omega
   rw[h9];omega
  have:=rZ (m:=2*(m<<<more/n)+(m<<<more%n != 0).toNat) (e:=i-j-more-1) (k:=a) (by omega);rw[show 1023+(a+1)=1024+a by omega];exact this
 ·cases hp
theorem Vj (h:m<4503599627370496):floatOfInt .f64 (m:Int)≤(1023+52)*4503599627370496:=by
 have hd:floatOfInt .f64 (m:Int)=Ieee.double.nearest (decide ((m:Int)<0)) m 0:=rfl;rw[hd,gp (by omega)];have:=log2_lt (m:=m) (k:=51) (by omega);exact rZ (k:=51) (by omega)
theorem Na (h:fH m p=some x):dS x=false∧m<4503599627370496∧p≤37:=by
 unfold fH at h;by_cases h0:m/4503599627370496≠0
 ·rw[ar h0]at h;cases h
 ·rw[af h0]at h;have hm:m<4503599627370496:=by omega
  have hf:=Vj hm;have fin: ∀{k w:Nat},k≤1000→w≤(1023+k)*4503599627370496→dS w=false:=fun hk hw=>ke (by show _<9218868437227405312;omega)
  by_cases h1:p=0
  ·rw[ar h1]at h;injection h with h
   subst h;exact⟨fin (by omega) hf,hm,by omega⟩
  ·rw[af h1]at h;by_cases h2:0<p∧p≤37
   ·rw[ar h2]at h;refine⟨?_,hm,h2.2⟩;obtain⟨z,hz⟩: ∃z,z=(if 22<p then ve (floatOfInt .f64 (m:Int)) (ff (p-22).toNat)else floatOfInt .f64 (m:Int)):=⟨_,rfl⟩;rw[←hz]at h;have Z4:z≤(1023+128)*4503599627370496:=by
     rw[hz];split
     ·have h9:=O5 (a:=52) (b:=74) (by omega) (by omega) hf (GB (p-22).toNat (by omega)).1;exact h9
     ·omega
    split at h
    ·cases h
    ·injection h with h
     rw[←h];refine fin (k:=128+74+2) (by omega) (O5 (by omega) (by omega) Z4 (GB _ ?_).1);split<;>omega
   ·rw[af h2]at h;split at h
    ·rename_i h3;injection h with h
     rw[←h];exact⟨fin (k:=52+1) (by omega) (Y1 (by omega) hf (by omega)),hm,by omega⟩
    ·cases h
theorem Q1 (h:x≤eW) (he:FloatKind.f64.format.order x eW=some .eq):x=eW:=by
 rcases dD x eW with au|lW
 ·exfalso;have h1:x<9218868437227405312:=au;have hi:Ieee.double.read eW= .infinity false:=by decide+kernel
  have he':(Ieee.double.read x).order (Ieee.double.read eW)=some .eq:=he;rw[hi]at he';obtain⟨hs,hir,hb,hp,_⟩:=uH;have e1:x/9223372036854775808=0:=tC (by omega);have e2:x%9223372036854775808=x:=td (by omega);have hr: ∃m e,Ieee.double.read x= .number false m e:=by
   unfold Ieee.Format.read;rw[hs,hir,hb,hp,e1,e2];simp only[Nat.zero_mod];split
   ·exact⟨_,_,rfl⟩
   ·exact⟨_,_,rfl⟩
  obtain⟨m,e,hr⟩:=hr;rw[hr]at he';simp[Ieee.Datum.order]at he'
 ·omega
def kR (l:List UInt8) (k:Nat):Nat:=((l.drop 2).take (k-2)).foldl (fun n c=>n*16+mx c) 0
theorem Fl (l:List UInt8):kR l 2=0:=by simp[kR]
theorem Cz (hj:2≤k) (h:k<l.length):kR l (k+1)=kR l k*16+mx (an l k):=by
 have hk:k-2<(l.drop 2).length:=by simp;omega
 have:(l.drop 2)[k-2]=an l k:=by
  rw[vs,an,lf,lB h];simp[show 2+(k-2)=k by omega]
 rw[kR,show k+1-2=k-2+1 by omega,jM hk,yy,this];rfl
theorem Vk (h:gS c=true) (hc:c.toNat≠48):1≤mx c:=by
 unfold mx;split
 ·rename_i hd;have:=aG hd;omega
 ·rename_i hd;have:=BK c h (by simpa using hd);omega
theorem Q3 (hc:c.toNat=48):mx c=0:=by
 unfold mx;have:digit c=true:=by simp[digit,hc]
 rw[ar this];omega
structure akN (l:List UInt8) (k:Nat):Prop where
 tu:(eG l k).tu=min (eG l k).nd 16
 fg: ∃r,kR l k=(eG l k).fg*16^((eG l k).nd-min (eG l k).nd 16)+r∧r<16^((eG l k).nd-min (eG l k).nd 16)∧((eG l k).tr=false→r=0)∧((eG l k).tr=true→0<r∧16<(eG l k).nd)
 pos:0<(eG l k).nd→16^(min (eG l k).nd 16-1)≤(eG l k).fg
 zer:(eG l k).nd=0→(eG l k).fg=0
theorem Y2 (h:EE l m): ∀k,2≤k→k≤m→akN l k:=by
 intro k hk;induction k with
 |zero=>omega
 |succ k ih=>
  intro hm;have hl:=h.1;by_cases he:k+1=2
  ·rw[he];refine⟨?_,⟨0,?_,?_,?_,?_⟩,?_,?_⟩<;>simp[BJ,Fl]
  ·obtain⟨i1,⟨r,i2,i3,i4,i5⟩,i6,i7⟩:=ih (by omega) (by omega);have hx:=h.2 k (by omega) (by omega);have hv:=Gw _ hx;have e1:=me (l:=l) (k:=k) (by omega) (by omega);have e2:=Cz (l:=l) (k:=k) (by omega) (by omega);have FQ:(an l k).toNat=48→mx (an l k)=0:=Q3;have SS:(an l k).toNat≠48→1≤mx (an l k):=Vk hx;generalize an l k=c at*
   generalize eG l k=R at*
   generalize kR l k=N at*
   obtain⟨M,Nm,D,tr⟩:=R;simp only at*
   subst i1;by_cases hz:c.toNat=48∧D=0
   ·have f1:eG l (k+1)=⟨M,min D 16,D,tr⟩:=by rw[e1,oh,ar hz]
    obtain⟨db,rfl⟩:=hz;have hM:=i7 rfl;have hN:N=0:=by rw[i2,hM];simp at i3;omega
    refine⟨?_,⟨0,?_,?_,?_,?_⟩,?_,?_⟩<;>simp only[f1,e2]
    ·rw[hN,FQ db,hM];rfl
    ·decide
    ·intro _;trivial
    ·intro Hw;have:=(i5 Hw).2;omega
    ·intro h;omega
    ·intro _;exact hM
   ·by_cases h16:min D 16<16
    ·have au:D<16:=by omega
     have f1:eG l (k+1)=⟨M*16+mx c,min D 16+1,D+1,tr⟩:=by rw[e1,oh,af hz,ar h16]
     rw[show D-min D 16=0 by omega,pK]at i2 i3;have htf:tr=false:=by cases tr;rfl;exact absurd (i5 rfl).2 (by omega)
     refine⟨?_,⟨0,?_,?_,?_,?_⟩,?_,?_⟩<;>simp only[f1,e2]
     ·omega
     ·rw[show D+1-min (D+1) 16=0 by omega,pK,i2];omega
     ·exact eX (by decide)
     ·intro _;trivial
     ·intro h;rw[htf]at h;cases h
     ·intro _;rw[show min (D+1) 16-1=D by omega];rcases jK D with h0|h0
      ·have:=SS fun h=>hz ⟨h,h0⟩
       rw[h0,pK];omega
      ·have h1:=i6 h0;rw[show min D 16-1=D-1 by omega]at h1;have h2:16^D=16^(D-1)*16:=by rw[←ef];congr 1;omega
       rw[h2];omega
     ·intro h;omega
    ·have lW:16≤D:=by omega
     have f1:eG l (k+1)=⟨M,min D 16,D+1,tr||c.toNat != 48⟩:=by rw[e1,oh,af hz,af h16]
     rw[qE lW]at i2 i3 i6;refine⟨?_,⟨r*16+mx c,?_,?_,?_,?_⟩,?_,?_⟩<;>simp only[f1,e2]
     ·omega
     ·rw[qE (by omega),show D+1-16=(D-16)+1 by omega,ef,i2,←bV];generalize M*16^(D-16)=Q;omega
     ·rw[qE (by omega),show D+1-16=(D-16)+1 by omega,ef];omega
     ·intro h;simp only[Bool.or_eq_false_iff,IJ]at h;rw[i4 h.1,FQ h.2]
     ·intro h;simp only[tD,ju,ne_eq]at h;refine⟨?_,by omega⟩;rcases h with h|h
      ·have:=(i5 h).1;omega
      ·have:=SS h;omega
     ·intro _;rw[qE (by omega)];exact i6 (by omega)
     ·intro h;omega
def xA (Z m s:Nat):Prop:=if m%2=0 then Z=m*2^s else(m-1)*2^s<Z∧Z<(m+1)*2^s
theorem JG (h:Z=m*2^s):xA Z m s:=by
 unfold xA;have hP:0<2^s:=eX (by decide);split
 ·exact h
 ·rename_i ho;rw[h];exact⟨qU (by omega) hP,qU (by omega) hP⟩
theorem Y3 (h:xA Z m s):xA Z (m/2|||m%2) (s+1):=by
 have hP:0<2^s:=eX (by decide);have e2:(2:Nat)^(s+1)=2*2^s:=by rw[ef,fu]
 unfold xA at h;by_cases he:m%2=0
 ·rw[ar he]at h;rw[he,Nat.or_zero];apply JG;rw[e2,←bV,h,show m/2*2=m by omega]
 ·rw[af he]at h;have h1:m%2=1:=by omega
  obtain⟨a,ha⟩: ∃a,a=m/2:=⟨_,rfl⟩;have hm:m=2*a+1:=by omega
  rw[h1,←ha];have ho:=kf a;have hle:=jZ a;have lW:=j0 a;unfold xA;rw[af (by omega),e2];rw[hm]at h;obtain⟨g1,g2⟩:=h;generalize 2^s=P at*
  have h3:((a|||1)-1)*(2*P)≤(2*a+1-1)*P:=by
   have e:((a|||1)-1)*(2*P)=(2*((a|||1)-1))*P:=by rw[←bV,fu _ 2]
   rw[e];exact fc _ (by omega)
  have h4:(2*a+1+1)*P≤((a|||1)+1)*(2*P):=by
   have e:((a|||1)+1)*(2*P)=(2*((a|||1)+1))*P:=by rw[←bV,fu _ 2]
   rw[e];exact fc _ (by omega)
  omega
theorem TM {c:Nat} (h:xA Z m s) (hc:c%2=0):c≤m↔c*2^s≤Z:=by
 have hP:0<2^s:=eX (by decide);unfold xA at h;generalize 2^s=P at*
 by_cases he:m%2=0
 ·rw[ar he]at h;rw[h];exact⟨fun h=>fc _ h,fun h=>Tz h hP⟩
 ·rw[af he]at h;constructor
  ·intro hh;have:c*P≤(m-1)*P:=fc _ (by omega);omega
  ·intro hh;have h1:c*P<(m+1)*P:=by omega
   have:=Nat.lt_of_mul_lt_mul_right h1;omega
theorem Fm: ∀(f m:Nat) (e:Int),∃j,j≤f∧(lg f m e).2=e-j∧(lg f m e).1=m*2^j
 |0,m,e=>⟨0,aP _,by simp[lg],by simp[lg]⟩
 |f+1,m,e=>by
  rw[lg];split
  ·obtain⟨j,h1,h2,h3⟩:=Fm f (m*2) (e-1);exact⟨j+1,by omega,by rw[h2];omega,by rw[h3,ef,bV,fu 2]⟩
  ·exact⟨0,aT _,by simp,by simp⟩
theorem Ue {Z:Nat}: ∀(f m:Nat) (e:Int) (s:Nat),xA Z m s→ ∃j,j≤f∧(ml f m e).2=e+j∧xA Z (ml f m e).1 (s+j)∧((ml f m e).1=m∨18014398509481984≤(ml f m e).1)
 |0,m,e,s,h=>⟨0,aP _,by simp[ml],by simpa [ml]using h,.inl (by simp[ml])⟩
 |f+1,m,e,s,h=>by
  rw[ml];split
  ·rename_i hm;obtain⟨j,h1,h2,h3,h4⟩:=Ue f (m/2|||m%2) (e+1) (s+1) (Y3 h);refine⟨j+1,by omega,by rw[h2];omega,by rw[show s+(j+1)=s+1+j by omega];exact h3,.inr ?_⟩;rcases h4 with h4|h4
   ·rw[h4];have:=Nat.left_le_or (n:=m/2) (m:=m%2);omega
   ·exact h4
  ·exact⟨0,aT _,by simp,by simpa using h,.inl rfl⟩
theorem agO:dS (gF 4503599627370496 2047).toNat=true:=by decide+kernel
theorem xX (hm:m<18446744073709551616) (he: -1023≤e):dS (vK m e).1=true↔1023<e:=by
 unfold vK;split
 ·rename_i h;simp only[agO];exact⟨fun _=>h,fun _=>trivial⟩
 ·rename_i h;simp only[qp hm (show (0:Int)≤e+1023 by omega) (by omega)];exact⟨fun h=>(by cases h),fun h2=>absurd h2 h⟩
theorem Q4 (h1:18014398509481984≤m) (h2:m<36028797018963968) (he: -1025≤e):dS (yM m e).1=true↔1024≤e+2∨(e+2=1023∧36028797018963966≤m):=by
 have hq:4503599627370496≤m/4∧m/4<9007199254740992:=by omega
 unfold yM;by_cases hr:hxR m=3
 ·rw[ar hr];by_cases Eg:m/4+1=9007199254740992
  ·rw[ar Eg];have tl:36028797018963966≤m:=by
    have ho:m/4%2=1:=by omega
    unfold hxR at hr;rw[show (3:Nat)=2^2-1 by decide,DB,ho]at hr;have h4:m%2^2=0∨m%2^2=1∨m%2^2=2∨m%2^2=3:=by omega
    rcases h4 with h|h|h|h
    ·rw[h]at hr;simp at hr
    ·rw[h]at hr;simp at hr
    ·omega
    ·omega
   unfold qI;rw[af (by omega),xX (by omega) (by omega)];omega
  ·rw[af Eg];unfold qI;rw[af (by omega),xX (by omega) (by omega)];omega
 ·rw[af hr];have tl: ¬36028797018963966≤m:=by
   intro hm;apply hr;have ho:m/4%2=1:=by omega
   unfold hxR;rw[show (3:Nat)=2^2-1 by decide,DB,ho];have h4:m%2^2=2∨m%2^2=3:=by omega
   rcases h4 with h|h<;>rw[h]<;>decide
  unfold qI;rw[af (by omega),xX (by omega) (by omega)];omega
theorem Vl:dS (SP 0 0 false).1=false:=by decide+kernel
theorem agP (σ c:Nat) (h:σ+2≤c):36028797018963968*2^σ≤(2^54-1)*2^c:=by
 refine bn (uj _ (ee (by decide) (show σ≤c-2 by omega))) ?_;rw[show (2:Nat)^c=4*2^(c-2)by rw[show (4:Nat)=2^2 by decide,←dX];congr 1;omega];generalize (2:Nat)^(c-2)=y;omega
theorem acq (σ c:Nat) (h:c=σ+1):36028797018963966*2^σ=(2^54-1)*2^c:=by
 rw[h,show (2:Nat)^(σ+1)=2*2^σ from Be];generalize (2:Nat)^σ=y;omega
theorem agQ (σ c:Nat) (h:c≤σ):(2^54-1)*2^c≤18014398509481984*2^σ:=by
 have h2:(2:Nat)^c≤2^σ:=ee (by decide) h;exact bn (uj _ h2) (fc _ (by decide))
theorem JH (h1:lg 54 m (p+52)=(m1,e1)) (hs:e1=(s:Int)-8) (cA:xA Z (zW m1 tr) s) (Aq:18014398509481984≤zW m1 tr) (sW:zW m1 tr<18446744073709551616):
  dS (SP m p tr).1=true↔pF*2^60≤Z:=by
 unfold SP;rw[h1];obtain⟨j,j1,j2,j3,j4⟩:=Ue 9 (zW m1 tr) e1 s cA;have gJ:=BI 9 (zW m1 tr) e1 (by rw[show (2:Nat)^(55+9)=18446744073709551616 by decide];exact sW);have XD:18014398509481984≤(ml 9 (zW m1 tr) e1).1:=by rcases j4 with h|h<;>omega
 simp only;generalize ml 9 (zW m1 tr) e1=q at*
 obtain⟨m3,e3⟩:=q;simp only at*
 rw[Q4 XD gJ.1 (by omega)];obtain⟨σ,hσ⟩: ∃σ,σ=s+j:=⟨_,rfl⟩;rw[←hσ]at j3;have he3:e3=(σ:Int)-8:=by omega
 have Ld:pF*2^60=(2^54-1)*2^1030:=by
  unfold pF;generalize h1:(970:Nat)=a;generalize h2:(1030:Nat)=c;exact agy _ a 60 c (by omega)
 rw[Ld];rcases Et σ 1029 with hc|hc|hc
 ·have h2:=(TM j3 (c:=36028797018963968) (by decide)).2;have hZ:Z<36028797018963968*2^σ:=by
   rcases dD Z (36028797018963968*2^σ)with h|h
   ·exact h
   ·have:=h2 h;omega
  have h6:=gO hZ (agP σ 1030 (by omega));generalize (2^54-1)*2^1030=V at h6 ⊢
  clear h2 hZ Ld j3;constructor
  ·rintro(h|h)<;>omega
  ·intro h;omega
 ·have h2:=TM j3 (c:=36028797018963966) (by decide);have h4:=acq σ 1030 (by rw[hc]);rw[h4]at h2;rw[←h2];constructor
  ·rintro(h|h)
   ·omega
   ·exact h.2
  ·intro h;exact .inr ⟨by omega,h⟩
 ·have h2:=(TM j3 (c:=18014398509481984) (by decide)).1 XD;have h3:=agQ σ 1030 (by omega);constructor
  ·intro _;have h9:=bn h3 h2;exact h9
  ·intro _;exact .inl (by omega)
theorem Q5 (h:EE l l.length) (h2:2<l.length):dS (LK l)=true↔pF≤kR l l.length:=by
 obtain⟨i1,⟨r,i2,i3,i4,i5⟩,i6,i7⟩:=Y2 h l.length (by omega) (aP _);have cC:=Gx h l.length (by omega) (aP _);unfold LK;generalize eG l l.length=R at*
 generalize kR l l.length=N at*
 obtain⟨M,Nm,D,tr⟩:=R;obtain⟨⟨k1,k2,k3⟩,k4⟩:=cC;simp only at*
 subst i1;have akO:M<18446744073709551616:=by
  have h5:(16:Nat)^min D 16≤16^16:=ee (by decide) (by omega);have h6:(16:Nat)^16=18446744073709551616:=by decide
  omega
 by_cases hM:M=0
 ·have hD:D=0:=by
   rcases jK D with h0|h0
   ·exact h0
   ·have:=i6 h0;have hp:0<16^(min D 16-1):=eX (by decide);omega
  have Hw:tr=false:=by cases tr;rfl;exact absurd (i5 rfl).2 (by omega)
  have hN:N=0:=by rw[i2,hM,i4 Hw];omega
  rw[hM,Hw,hN];simp only[ne_eq,not_true_eq_false,iE,Vl];have:0<pF:=by decide+kernel
  constructor
  ·intro h;cases h
  ·intro h;omega
 ·rw[ar hM];obtain⟨c,hc⟩: ∃c,c=D-min D 16:=⟨_,rfl⟩;rw[←hc]at i2 i3;have hp:4*(D:Int)-4*((min D 16:Nat):Int)=((4*c:Nat):Int):=by omega
  rw[hp];have SX:(16:Nat)^c=2^(4*c):=by rw[show (16:Nat)=2^4 by decide,←Nat.pow_mul]
  have kH:pF≤N↔pF*2^60≤N*2^60:=(yu (show 0<2^60 by decide)).symm;rw[kH];cases Hw:tr
  ·have SY:=i4 Hw;obtain⟨j,j1,j2,j3⟩:=Fm 54 M (((4*c:Nat):Int)+52);have gJ:=BH 54 M (((4*c:Nat):Int)+52) (fun h0=>by
    have:1*2^54≤M*2^54:=fc _ (by omega);have e:(2:Nat)^54=18014398509481984:=by decide
    omega) akO
   generalize hh:lg 54 M (((4*c:Nat):Int)+52)=q at*
   obtain⟨m1,e1⟩:=q;simp only at*
   have ue:m1≠0:=by rw[j3];exact Nat.ne_of_gt (Nat.mul_pos (by omega) (eX (by decide)))
   refine JH (s:=4*c+60-j) hh (by omega) ?_ (by show _≤m1;exact gJ.2.1 ue) (by show m1<_;exact gJ.1);apply JG;show N*2^60=m1*2^(4*c+60-j);rw[i2,SY,iv,SX,j3,bV,bV,←dX,←dX]
   congr 2
   omega
  ·obtain⟨r0,asx⟩:=i5 Hw;have iJ:=i6 (by omega);rw[show min D 16-1=15 by omega,show (16:Nat)^15=1152921504606846976 by decide]at iJ;have hh:=OQ (m:=M) (by omega) (((4*c:Nat):Int)+52) 54;have ho:=kf M;have hle:=jZ M;have lW:=j0 M;have au:M|||1<2^64:=Eu (by omega) (by decide);refine JH (s:=4*c+60) hh (by omega) ?_ (by show _≤M|||1;omega) (by show M|||1<_;omega);show xA (N*2^60) (M|||1) (4*c+60);unfold xA;rw[af (by omega),i2,SX,dX];rw[SX]at i3;generalize 2^(4*c)=P at*
   have e60:0<2^60:=by decide
   generalize 2^60=Q at*
   rw[←bV,←bV,Nat.mul_lt_mul_right e60,Nat.mul_lt_mul_right e60];have g1:((M|||1)-1)*P≤M*P:=fc _ (by omega);have g2:(M+1)*P≤((M|||1)+1)*P:=fc _ (by omega);rw[Nat.succ_mul]at g2;omega
def ep (a:Nat) (c:UInt8):Option Nat:=
 if a=8∧tZ c=true then some 9
 else if a=9∨a=10 then(if gS c=true then some 10 else none)
 else if digit c=true then(if a=0 then(if c.toNat=48 then some 8 else some 1)else if a=1∨a=8 then some 1 else if a=2∨a=3∨a=4 then some 4 else some 7)
 else if c.toNat=46 then(if a=0 then some 3 else if a=1∨a=8 then some 2 else none)
 else if tj c=true then(if a=1∨a=8∨a=2∨a=4 then some 5 else none)
 else if zV c=true then(if a=5 then some 6 else none)
 else none
def Bt (a:Nat):Bool:=a==1||a==8||a==2||a==4||a==7||a==10
def pf (a n i:Nat):List UInt8→Nat
 |[]=>n
 |c::r=>match ep a c with
  |none=>n
  |some b=>pf b (if Bt b then i+1 else n) (i+1) r
theorem JI (h:i<l.length):l.drop i=an l i::l.drop (i+1):=by
 rw[nV h];rw[show an l i=l[i]by rw[an,lf,lB h];rfl]
theorem lQ (h:i<l.length) (hs:ep a (an l i)=none):pf a n i (l.drop i)=n:=by
 rw[JI h,pf,hs]
theorem rJ (h:l.length≤i):pf a n i (l.drop i)=n:=by
 rw[s9 h,pf]
theorem eV (h:i<l.length) (hs:ep a (an l i)=some b):pf a n i (l.drop i)=pf b (if Bt b then i+1 else n) (i+1) (l.drop (i+1)):=by
 rw[JI h,pf,hs]
theorem gz {p:UInt8→Bool} (h:i<l.length) (hp:p (an l i)=true):ae p l i=ae p l (i+1):=by
 refine(iD h ?_).symm
 rwa [show l[i]=an l i by rw[an,lf,lB h];rfl]
theorem Uf (l:List UInt8): ∀d i,l.length-i=d→pf 10 i i (l.drop i)=ae gS l i
 |0,i,h=>by rw[rJ (by omega),bO (by omega)]
 |d+1,i,h=>by
  have hi:i<l.length:=by omega
  cases hx:gS (an l i)
  ·rw[lQ hi (by simp[ep,hx]),du hi hx]
  ·rw[eV hi (b:=10) (by simp[ep,hx]),gz hi hx];exact Uf l d (i+1) (by omega)
theorem BV (l:List UInt8): ∀d i,l.length-i=d→pf 7 i i (l.drop i)=ae digit l i
 |0,i,h=>by rw[rJ (by omega),bO (by omega)]
 |d+1,i,h=>by
  have hi:i<l.length:=by omega
  cases hx:digit (an l i)
  ·rw[lQ hi (by simp[ep,hx]),du hi hx]
  ·rw[eV hi (b:=7) (by simp[ep,hx]),gz hi hx];exact BV l d (i+1) (by omega)
theorem wq (l:List UInt8) (j:Nat) (h:j<l.length) (hd:digit (an l j)=true):j<ae digit l j:=by
 rw[gz h hd];have:=aV digit l (j+1);omega
theorem Y4:pf 6 n j (l.drop j)=if j<ae digit l j then ae digit l j else n:=by
 by_cases h:j<l.length
 ·cases hd:digit (an l j)
  ·rw[lQ h (by simp[ep,hd]),du h hd,af (by omega)]
  ·rw[eV h (b:=7) (by simp[ep,hd]),ar (wq l j h hd)];show pf 7 (j+1) (j+1) _=_;rw[BV l _ (j+1) rfl,gz h hd]
 ·rw[rJ (by omega),bO (by omega),af (by omega)]
theorem Vm: ∀c:UInt8,zV c=true→digit c=false∧(c.toNat=46)=False∧tj c=false∧tZ c=false:=iB (by decide+kernel)
theorem Y5: ∀c:UInt8,tj c=true→digit c=false∧(c.toNat=46)=False∧tZ c=false:=iB (by decide+kernel)
theorem O6: ∀c:UInt8,c.toNat=46→digit c=false∧tj c=false∧tZ c=false:=iB (by decide+kernel)
theorem Y6: ∀c:UInt8,tZ c=true→digit c=false∧(c.toNat=46)=False∧tj c=false:=iB (by decide+kernel)
theorem acr (h:i<l.length):pf 5 n (i+1) (l.drop (i+1))=if dF l i<ae digit l (dF l i)then ae digit l (dF l i)else n:=by
 unfold dF;by_cases hp:i+1<l.length∧zV (an l (i+1))=true
 ·rw[ar hp];obtain⟨h1,h2,h3,h4⟩:=Vm _ hp.2;rw[eV hp.1 (b:=6) (by simp[ep,h1,h2,h3,h4,hp.2])];exact Y4
 ·rw[af hp];by_cases hl:i+1<l.length
  ·have ZQ:zV (an l (i+1))=false:=by simpa using fun h=>hp ⟨hl,h⟩
   cases hd:digit (an l (i+1))
   ·rw[du hl hd,af (by omega)];refine lQ hl ?_;simp[ep,hd,ZQ]
   ·rw[eV hl (b:=7) (by simp[ep,hd]),ar (wq l (i+1) hl hd)];show pf 7 (i+1+1) (i+1+1) _=_;rw[BV l _ (i+1+1) rfl,gz hl hd]
  ·rw[rJ (by omega),bO (by omega),af (by omega)]
theorem vT (ha:a=1∨a=8∨a=2∨a=4) (hd:i<l.length→digit (an l i)=false) (hp:i<l.length→(an l i).toNat=46→a=2∨a=4) (hx:i<l.length→a=8→tZ (an l i)=false):pf a i i (l.drop i)=cQ l i:=by
 unfold cQ;by_cases h:i<l.length
 ·have h1:=hd h;have h2:=hp h;have h3:=hx h;cases hE:tj (an l i)
  ·rw[ar (.inr rfl)];refine lQ h ?_;have e2: ¬(a=9∨a=10):=by omega
   unfold ep;rw[af (by rintro⟨x,y⟩;rw[h3 x]at y;cases y),af e2,h1,af (by simp)];split
   ·rename_i F8;have:=h2 F8;rw[af (by omega),af (by omega)]
   ·rw[hE,af (by simp)];split
    ·rw[af (by omega)]
    ·rfl
  ·obtain⟨_,e3,e4⟩:=Y5 _ hE;rw[af (by rintro(x|x)<;>first|omega|cases x)];rw[eV h (b:=5) (by
    unfold ep;rw[af (by rintro⟨_,y⟩;rw[e4]at y;cases y),af (by omega),h1,af (by simp),af (by rw[e3];exact id),hE,ar rfl,ar ha])]
   show pf 5 i (i+1) _=_;exact acr h
 ·rw[ar (.inl (by omega)),rJ (by omega)]
theorem GC (l:List UInt8): ∀d i,l.length-i=d→pf 4 i i (l.drop i)=cQ l (ae digit l i)
 |0,i,h=>by rw[bO (by omega)];exact vT (by simp) (by omega) (by omega) (by omega)
 |d+1,i,h=>by
  have hi:i<l.length:=by omega
  cases hx:digit (an l i)
  ·rw[du hi hx];exact vT (by simp) (fun _=>hx) (by simp) (by simp)
  ·rw[eV hi (b:=4) (by simp[ep,hx]),gz hi hx];exact GC l d (i+1) (by omega)
theorem Vn (l:List UInt8) (i:Nat):pf 2 i i (l.drop i)=cQ l (ae digit l i):=by
 by_cases hi:i<l.length
 ·cases hx:digit (an l i)
  ·rw[du hi hx];exact vT (by simp) (fun _=>hx) (by simp) (by simp)
  ·rw[eV hi (b:=4) (by simp[ep,hx]),gz hi hx];exact GC l _ (i+1) rfl
 ·rw[bO (by omega)];exact vT (by simp) (by omega) (by omega) (by omega)
def jD (l:List UInt8) (k:Nat):Nat:=if k<l.length∧(an l k).toNat=46 then cQ l (ae digit l (k+1))else cQ l k
theorem AF (ha:a=1∨a=8) (hd:i<l.length→digit (an l i)=false) (hx:i<l.length→a=8→tZ (an l i)=false):pf a i i (l.drop i)=jD l i:=by
 unfold jD;by_cases hp:i<l.length∧(an l i).toNat=46
 ·rw[ar hp];obtain⟨e1,e2,e3⟩:=O6 _ hp.2;rw[eV hp.1 (b:=2) (by rcases ha with rfl|rfl<;>simp[ep,e1,e3,hp.2])];exact Vn l (i+1)
 ·rw[af hp];exact vT (by omega) hd (fun h1 h2=>absurd ⟨h1,h2⟩ hp) hx
theorem BW (l:List UInt8): ∀d i,l.length-i=d→pf 1 i i (l.drop i)=jD l (ae digit l i)
 |0,i,h=>by rw[bO (by omega)];exact AF (by simp) (by omega) (by omega)
 |d+1,i,h=>by
  have hi:i<l.length:=by omega
  cases hx:digit (an l i)
  ·rw[du hi hx];exact AF (by simp) (fun _=>hx) (by simp)
  ·rw[eV hi (b:=1) (by simp[ep,hx]),gz hi hx];exact BW l d (i+1) (by omega)
theorem qx (h:0<ae digit l 0):(if aI l=0 then 0 else cQ l (aI l))=jD l (ae digit l 0):=by
 unfold jD;by_cases hp:ae digit l 0<l.length∧(an l (ae digit l 0)).toNat=46
 ·have h2:=aV digit l (ae digit l 0+1);have h5:aI l=ae digit l (ae digit l 0+1):=by rw[aI,ar ⟨hp.1,hp.2,h⟩]
  rw[h5,ar hp,af (by omega)]
 ·have h5:aI l=ae digit l 0:=by rw[aI,af (by rintro⟨a,b,_⟩;exact hp ⟨a,b⟩),af (by omega)]
  rw[h5,af hp,af (by omega)]
theorem G7 (l:List UInt8):pf 0 0 0 l=ag l:=by
 have hl0:pf 0 0 0 l=pf 0 0 0 (l.drop 0):=rfl;rw[hl0];by_cases h0:0<l.length
 ·cases hd:digit (an l 0)
  ·have hs:ae digit l 0=0:=du h0 hd;have hh:aO l=false:=by
    unfold aO;have:((an l 0).toNat==48)=false:=by
     rw[bK];intro h;have:digit (an l 0)=true:=by simp[digit,h]
     rw[hd]at this;cases this
    rw[this,tF,rr,rr]
   rw[ag,hh,af (by simp)];by_cases hp:(an l 0).toNat=46
   ·obtain⟨e1,e2,e3⟩:=O6 _ hp;rw[eV h0 (b:=3) (by simp[ep,e1,hp])];show pf 3 0 1 (l.drop 1)=_;by_cases h1:1<l.length
    ·cases zL:digit (an l 1)
     ·rw[lQ h1 (by unfold ep;simp only[zL];simp;repeat' split<;>simp_all)];have h5:aI l=0:=by
       rw[aI,hs,af (by omega),af (by rintro⟨_,_,_,h⟩;rw[zL]at h;cases h)]
      rw[h5,ar rfl]
     ·rw[eV h1 (b:=4) (by simp[ep,zL])];show pf 4 2 2 (l.drop 2)=_;rw[GC l _ 2 rfl];have h5:aI l=ae digit l 1:=by
       rw[aI,hs,af (by omega),ar ⟨rfl,h1,hp,zL⟩]
      have h6:=wq l 1 h1 zL;rw[h5,af (by omega),gz h1 zL]
    ·have h5:aI l=0:=by rw[aI,hs,af (by omega),af (by omega)]
     rw[rJ (by omega),h5,ar rfl]
   ·have h5:aI l=0:=by rw[aI,hs,af (by omega),af (by rintro⟨_,_,h,_⟩;exact hp h)]
    rw[h5,ar rfl];refine lQ h0 ?_;unfold ep;rw[af (by omega),af (by omega),hd,af (by simp),af hp];split
    ·rw[af (by omega)]
    ·split
     ·rw[af (by omega)]
     ·rfl
  ·have oz:=wq l 0 h0 hd;have hsy:=gz h0 hd;by_cases hz:(an l 0).toNat=48
   ·rw[eV h0 (b:=8) (by simp[ep,hd,hz])];show pf 8 1 1 (l.drop 1)=_;by_cases hX:1<l.length∧tZ (an l 1)=true
    ·obtain⟨x1,x2,x3⟩:=Y6 _ hX.2;rw[eV hX.1 (b:=9) (by simp[ep,hX.2])];show pf 9 1 2 (l.drop 2)=_;have uV:ae digit l 0=1:=by rw[hsy,du hX.1 x1]
     by_cases hh:aO l=true
     ·have WE:=hh;simp[aO]at WE;rw[ag,ar hh,eV WE.1.1.1 (b:=10) (by simp[ep,WE.2])];show pf 10 3 3 (l.drop 3)=_;rw[Uf l _ 3 rfl,gz WE.1.1.1 WE.2]
     ·rw[ag,af hh,qx (by omega),uV];have hn:pf 9 1 2 (l.drop 2)=1:=by
       by_cases h2:2<l.length
       ·refine lQ h2 ?_;have ml:gS (an l 2)=false:=by
         rw[←yC];intro h;exact hh (by simp[aO,h2,hz,hX.2,h])
        simp[ep,ml]
       ·exact rJ (by omega)
      rw[hn,jD,af (by rw[x2];simp),cQ,ar (.inr x3)]
    ·have hh: ¬aO l=true:=by
      intro h;simp[aO]at h;exact hX ⟨by omega,h.1.2⟩
     rw[ag,af hh,qx oz,hsy];by_cases h1:1<l.length
     ·have hX':tZ (an l 1)=false:=by simpa using fun h=>hX ⟨h1,h⟩
      cases zL:digit (an l 1)
      ·show pf 8 1 1 (l.drop 1)=jD l (ae digit l 1);rw[du h1 zL];exact AF (by simp) (fun _=>zL) (fun _ _=>hX')
      ·rw[eV h1 (b:=1) (by simp[ep,zL,hX'])];show pf 1 2 2 (l.drop 2)=jD l (ae digit l 1);rw[BW l _ 2 rfl,gz h1 zL]
     ·show pf 8 1 1 (l.drop 1)=jD l (ae digit l 1);rw[bO (by omega)];exact AF (by simp) (by omega) (by omega)
   ·have hh: ¬aO l=true:=by
     intro h;simp[aO]at h;exact hz h.1.1.2
    rw[ag,af hh,qx oz,hsy,eV h0 (b:=1) (by simp[ep,hd,hz])];exact BW l _ 1 rfl
 ·have:l=[]:=pH.1 (by omega);subst this;rfl
theorem Fo (c:UInt8) (w:World):
  Calls prog 138 #[.int .u8 (c.toNat:Int)] w fun e w'=>e= .returned (.bool (digit c))∧w=w':=by
 go_enter func138,ntmps138;go_wp2
 all_goals (go_ret;exact⟨ah (by rw[eE];simp[digit];omega),rfl⟩)
def F9 (c:UInt8):Int:=if gS c then(mx c:Int)else-1
theorem mN (c:UInt8):(digit c=true→F9 c=(c.toNat:Int)-48)∧(97≤c.toNat→c.toNat≤102→F9 c=(c.toNat:Int)-87)∧(65≤c.toNat→c.toNat≤70→F9 c=(c.toNat:Int)-55)∧(gS c=false→F9 c= -1)∧(gS c=true→0≤F9 c∧F9 c≤15∧F9 c=(mx c:Int)):=by
 revert c;exact iB (by decide+kernel)
theorem Y7 (hd:digit c=false) (h1: ¬(97≤c.toNat∧c.toNat≤102)) (h2: ¬(65≤c.toNat∧c.toNat≤70)):gS c=false:=by
 unfold gS;rw[hd,Bool.false_or,Bool.or_eq_false_iff];constructor
 ·rw[←yC,kF,uk,uk];exact h1
 ·rw[←yC,kF,uk,uk];exact h2
theorem Pa (c:UInt8) (w:World):
  Calls prog 137 #[.int .u8 (c.toNat:Int)] w fun e w'=>e= .returned (.int .i64 (F9 c))∧w=w':=by
 go_enter func137,ntmps137;cases hd:digit c
 all_goals
  go_wp2_with fail;refine(Fo _ _).mono ?_;rintro e w' ⟨rfl,rfl⟩;rw[hd];go_wp2_with fail
 all_goals
  go_ret;refine⟨aE ?_,rfl⟩
  first
   |(rw[(mN c).1 hd];have:=aG hd;omega)
   |(rw[(mN c).2.1 (by omega) (by omega)];omega)
   |(rw[(mN c).2.2.1 (by omega) (by omega)];omega)
   |(rw[(mN c).2.2.2.1 (Y7 hd (by omega) (by omega))])
def vM (a:Nat) (c:UInt8):Int:=
 if a=8∧tZ c=true then 9
 else if a=9∨a=10 then(if gS c=true then 10 else-1)
 else if digit c=true then(if a=0 then(if c.toNat=48 then 8 else 1)else if a=1∨a=8 then 1 else if a=2∨a=3∨a=4 then 4 else 7)
 else if c.toNat=46 then(if a=0 then 3 else if a=1∨a=8 then 2 else-1)
 else if tj c=true then(if a=1∨a=8∨a=2∨a=4 then 5 else-1)
 else if zV c=true then(if a=5 then 6 else-1)
 else-1
theorem JJ (a:Nat) (ha:a≤10) (c:UInt8) (w:World):
  Calls prog 123 #[.int .i64 (a:Int),.int .u8 (c.toNat:Int)] w fun e w'=>e= .returned (.int .i64 (vM a c))∧w=w':=by
 have acs:a=0∨a=1∨a=2∨a=3∨a=4∨a=5∨a=6∨a=7∨a=8∨a=9∨a=10:=by omega
 have hV:vM a c=vM a c:=rfl;generalize hv:vM a c=V at hV;clear hV;rcases acs with rfl|rfl|rfl|rfl|rfl|rfl|rfl|rfl|rfl|rfl|rfl
 all_goals
  clear ha;have hv':=aa hv;clear hv;go_enter func123,ntmps123;cases hd:digit c
  all_goals
   cases hx:gS c
   all_goals
    have hi:=(mN c).2.2.2;simp only[hx,lh,reduceCtorEq,true_implies,false_implies,jw,rz]at hi;go_wp2_with (first|(go_at_call 138;refine(Fo _ _).mono ?_;rintro e w' ⟨rfl,rfl⟩;rw[hd])|(go_at_call 137;refine(Pa _ _).mono ?_;rintro e w' ⟨rfl,rfl⟩))
 all_goals
  go_ret;refine⟨aE ?_,rfl⟩;rw[←hv'.out];simp only[vM,tZ,tj,zV,hd,hx,tD,cn,Nat.reduceEqDiff,false_and,and_false,rz,jw,or_true,true_or,iN,false_or,kJ,iE,lh,or_self,reduceCtorEq]
  first
   |done
   |rfl
   |(repeat' split)<;>first|rfl|omega|(simp only[cn,bK,ne_eq]at*;omega)|(have:=aG hd;simp only[cn,bK,ne_eq]at*;omega)
theorem Q6 (a:Nat) (w:World):
  Calls prog 124 #[.int .i64 (a:Int)] w fun e w'=>e= .returned (.bool (Bt a))∧w=w':=by
 go_enter func124,ntmps124;go_wp2
 all_goals (go_ret;exact⟨ah (by rw[eE];simp[Bt];try omega),rfl⟩)
