import Derived.Laws.Bits64b
import Derived.Test.YtcdoilkjmjbgmaaGreatDoorR17
/- Part of the proof of YtcdoilkjmjbgmaaGreatDoorCardR: OvC OvD RbG RbH OvE OvF OvG RbJ RbI RbK OvH RbL RbM RbN. -/
set_option maxRecDepth 100000
set_option maxHeartbeats 4000000
set_option linter.unusedVariables false
set_option linter.unusedSimpArgs false
namespace Go.Proofs.YtcdoilkjmjbgmaaGreatDoor
open Go.RowKit
open Go.Proofs.Tryz
variable {n m x vn v1 J K hi lo u d k a b M N D drop y c Z s m1 i j:Nat} {e p A X e1:Int} {S:cS} {v:Value} {es fs:List Nat} {w w' wr w2:World} {l:List UInt8} {tr:Bool}
theorem YA (h:n<9223372036854775808):S8 n=n:=by
 unfold S8;rw[tz (by omega),show (9223372036854775807:Nat)=2^63-1 by decide,DM,tz (by omega)]
theorem kl (h:n<fa):dU n=false:=by
 have h0:n<9218868437227405312:=h;unfold dU;rw[YA (by omega)];have pC:Ieee.double.read 9218868437227405311= .number false 9007199254740991 971:=by decide+kernel
 have hs:Ieee.double.signWeight=9223372036854775808:=by decide+kernel
 have hi:Ieee.double.infRung=9218868437227405312:=by decide+kernel
 have hb:Ieee.double.binade=4503599627370496:=by decide+kernel
 have hp:Ieee.double.leastPlace= -1074:=by decide+kernel
 have hr: ∃m e,Ieee.double.read n= .number false m e∧m≤9007199254740991∧e≤971:=by
  have e1:n/9223372036854775808=0:=tO (by omega);have e2:n%9223372036854775808=n:=tz (by omega);unfold Ieee.Format.read;rw[hs,hi,hb,hp,e1,e2];simp only[Nat.zero_mod];split
  ·exact⟨_,_,rfl,by omega,by omega⟩
  ·exact⟨_,_,rfl,by omega,by omega⟩
 obtain⟨m,e,hre,hm,he⟩:=hr;show ((Ieee.double.read n).order (Ieee.double.read 9218868437227405311)==some .gt)=false;rw[hre,pC];simp only[Ieee.Datum.order];rw[Int.min_eq_left he];have hle:Ieee.signed false m (e-e).toNat≤Ieee.signed false 9007199254740991 (971-e).toNat:=by
  unfold Ieee.signed;simp only[lE,iG];rw[show (e-e).toNat=0 by omega,Nat.shiftLeft_zero,Nat.shiftLeft_eq];have:9007199254740991*1≤9007199254740991*2^(971-e).toNat:=uE _ (fb (by omega));omega
 generalize Ieee.signed false m (e-e).toNat=A at hle ⊢
 generalize Ieee.signed false 9007199254740991 (971-e).toNat=B at hle ⊢
 have hc:compare A B≠.gt:=by
  intro hc;have:=Int.compare_eq_gt.1 hc;omega
 cases hcc:compare A B
 ·rfl
 ·rfl
 ·exact absurd hcc hc
theorem uT:dU fa=true:=by decide+kernel
theorem YB: ∀s:Fin 2048,bits .and .i64 (s.val:Int) 2047=(s.val:Int):=by decide+kernel
theorem qg {x:Int} (hm:m<18446744073709551616) (h0:0≤x) (h1:x≤2046):dU (gL (m:Int) x).toNat=false:=by
 obtain⟨y,rfl⟩: ∃y:Nat,x=(y:Int):=⟨x.toNat,by omega⟩;have e1:=YB ⟨y,by omega⟩;simp only at e1;have e2:IntKind.u64.wrap (IntKind.u64.wrap (y:Int)*4503599627370496)=((y*4503599627370496:Nat):Int):=by
  rw[dc,dc];omega
 have e3:=bits_and_u64_nat m 4503599627370495 hm (by omega);have e4:m&&&4503599627370495=m%4503599627370496:=by
  rw[show (4503599627370495:Nat)=2^52-1 by decide,DM]
 have ax:m%4503599627370496<4503599627370496:=mD _ (by omega);have e5:=bits_or_u64_nat (m%4503599627370496) (y*4503599627370496) (by omega) (by omega);have e6:m%4503599627370496|||y*4503599627370496=y*4503599627370496+m%4503599627370496:=by
  have:=IU (i:=52) (b:=m%4503599627370496) ax y;rw[Nat.or_comm,fA y];exact this.symm
 have hf:gL (m:Int) (y:Int)=((y*4503599627370496+m%4503599627370496:Nat):Int):=by
  unfold gL;rw[e1,e2];have e3':bits .and .u64 (m:Int) 4503599627370495=((m%4503599627370496:Nat):Int):=by rw[←e4];exact e3
  rw[e3',e5,e6]
 rw[hf,my];apply kl;show _<9218868437227405312;omega
theorem yg:dU Bt.1.toNat=true:=by decide+kernel
theorem U3 (S:cS):FU S<18446744073709551616:=by
 unfold FU lR;split
 ·omega
 ·split
  ·omega
  ·omega
theorem zF (hm:m<18446744073709551616) (h0: -1022≤e) (h1:e≤1023):(pR m e).2=false∧dU (pR m e).1.toNat=false:=by
 unfold pR;split
 ·exact⟨rfl,qg hm (by omega) (by omega)⟩
 ·exact⟨rfl,qg hm (by omega) (by omega)⟩
theorem zG (h0: -1022≤e):dU (pS S e).1.toNat=(pS S e).2∧((pS S e).2=true↔1024≤e∨(e=1023∧FU (S.ls 53)=9007199254740992)):=by
 unfold pS;by_cases h1:2047≤e+1023
 ·rw[au h1];exact⟨yg,⟨fun _=>.inl (by omega),fun _=>rfl⟩⟩
 ·rw[af h1];unfold uI;by_cases h2:FU (S.ls 53)=9007199254740992
  ·rw[au h2];by_cases h3:2047≤e+1+1023
   ·rw[au h3];exact⟨yg,⟨fun _=>.inr ⟨by omega,h2⟩,fun _=>rfl⟩⟩
   ·rw[af h3];obtain⟨a,b⟩:=zF (m:=4503599627370496) (e:=e+1) (by omega) (by omega) (by omega);rw[a,b];refine⟨rfl,⟨fun h=>by simp at h,fun h=>?_⟩⟩;omega
  ·rw[af h2];obtain⟨a,b⟩:=zF (m:=FU (S.ls 53)) (e:=e) (U3 _) (by omega) (by omega);rw[a,b];refine⟨rfl,⟨fun h=>by simp at h,fun h=>?_⟩⟩;rcases h with h|h
   ·omega
   ·exact absurd h.2 h2
theorem No:dU (tW S e).1.toNat=(tW S e).2∧((tW S e).2=true↔1024≤e∨(e=1023∧FU (S.ls 53)=9007199254740992)):=by
 unfold tW;by_cases h:e< -1022
 ·rw[au h];obtain⟨a,b⟩:=zG (S:=cS.LK (-1022-e).toNat S) (e:= -1022) (by omega);refine⟨a,?_⟩;rw[b];constructor
  ·rintro(h|h)<;>omega
  ·rintro(h|h)<;>omega
 ·rw[af h];exact zG (by omega)
theorem Pd: ∀(f:Nat) (S:cS) (e:Int),(zQ f S e).2≤e
 |0,S,e=>by simp[zQ]
 |f+1,S,e=>by
  by_cases hl:yY S
  ·rw[BS hl];have:=Pd f (S.ls (gK (-S.dp).toNat)) (e-gK (-S.dp).toNat);omega
  ·rw[GH hl];exact Int.le_refl _
theorem YC {v:Nat} {R:Prop} (a b c p g x e:Nat) (hb:b=a+1) (aN:b=54+c) (hc:c=p+g) (hg:3≤g) (he:e=54+x)
  (AT:10^b≤2*vn) (tj:vn<10^b) (hS1:10^a≤v1) (j5:vn=v1*2^J) (k4: ∀X,10^p ∣ X→(X≤v1↔X*2^K≤v)) (DU:R↔(2^54-1)*5^54*10^c≤vn):
  (K<J+e→ ¬(2^54-1)*2^x*10^b≤v)∧(K=J+e→(R↔(2^54-1)*2^x*10^b≤v))∧(J+e<K→(2^54-1)*2^x*10^b≤v):=by
 have hJ:J<4:=by
  rcases dF J 4 with h|h
  ·exact h
  ·exfalso;have Γ:2^4≤2^J:=ek (by omega) h;have h1:=abK hS1 Γ;rw[←j5]at h1;rw[aey a b hb]at tj;generalize 10^a=P at h1 tj;omega
 have hP:0<2^J:=fb (by omega);have key: ∀t,t*10^c≤vn↔t*10^c*2^K≤v*2^J:=fun t=>by
  obtain⟨d,hd⟩:=abI J t p g c hc (by omega);have hT:t*10^c=10^p*d*2^J:=by rw[hd];simp only[ct,fA,qv]
  have k5:=k4 (10^p*d) (Nat.dvd_mul_right _ _);rw[hT,j5];generalize 10^p*d=X at k5;rw[yG hP,k5,yK X,yG hP]
 have LM:=O7 54 c b aN;have A:5*10^53*10^c*2^K≤v*2^J:=by
  rw[←key];have:5*10^53*10^c*2=(10:Nat)^b:=by
   rw[LM,show (10:Nat)^54=10^53*10 by rw[←et]];generalize (10:Nat)^53=u;generalize (10:Nat)^c=z;rw[show u*10*z=5*u*2*z by rw[show 5*u*2=u*10 by omega]];rw[yK]
  omega
 have B:v*2^J<10^54*10^c*2^K:=by
  rcases dF (v*2^J) (10^54*10^c*2^K)with h|h
  ·exact h
  ·have:=(key (10^54)).2 h;rw[←LM]at this;omega
 have C:=key ((2^54-1)*5^54);rw[←DU]at C;rw[LM];have e54:(2:Nat)^e=2^54*2^x:=by rw[he,ee]
 have ajF:(10:Nat)^54=5^54*2^54:=by rw[←Bo]
 refine⟨fun hK hh=>?_,fun hK=>?_,fun hK=>?_⟩
 ·have h1:(10:Nat)^54*10^c*2^K≤10^54*10^c*2^(J+53+x):=uE _ (ek (by omega) (by omega));have h2:(2:Nat)^(J+53+x)=2^53*2^x*2^J:=by rw[←ee,←ee,show 53+x+J=J+53+x by omega]
  have h3:(2^54-1)*2^x*(10^54*10^c)*2^J≤v*2^J:=fi _ hh;rw[h2]at h1;generalize (10:Nat)^54*10^c=u at B h1 h3;generalize (2:Nat)^J=j at B h1 h3;generalize (2:Nat)^x=y at h1 h3;have h4:(2^54-1)*y*u*j<u*(2^53*y*j):=by omega
  have h5:u*(2^53*y*j)≤(2^54-1)*y*u*j:=by
   have e1:u*(2^53*y*j)=2^53*(y*u*j):=by simp only[ct,fA,qv]
   have e2:(2^54-1)*y*u*j=(2^54-1)*(y*u*j):=by simp only[ct]
   rw[e1,e2];exact fi _ (by decide)
  omega
 ·have h1:(2^54-1)*5^54*10^c*2^K=(2^54-1)*2^x*(10^54*10^c)*2^J:=by
   rw[hK,Bm J e,ee,e54,ajF];simp only[ct,fA,qv]
  rw[C,h1,yG hP]
 ·have h1:5*10^53*10^c*2^(J+e+1)≤v*2^J:=bP (uE _ (ek (by omega) (by omega))) A;have h2:(2:Nat)^(J+e+1)=2*(2^54*2^x)*2^J:=by rw[←e54,←Bl,←ee,show e+1+J=J+e+1 by omega]
  rw[h2,←ct,yG hP]at h1;refine bP ?_ h1;rw[show (10:Nat)^54=10^53*10 by rw[←et]];generalize (10:Nat)^53=u;generalize (10:Nat)^c=z;generalize (2:Nat)^x=y;have e1:5*u*z*(2*(2^54*y))=2^54*(y*(u*10*z)):=by
   rw[show u*10=5*u*2 by omega];simp only[ct,fA,qv]
  rw[e1,ct];exact fi _ (by decide)
theorem U4 (ok:S.Ok):dU (FV S).1.toNat=(FV S).2∧((FV S).2=true↔310<S.dp∨(0≤S.dp∧S.dp≤310∧(2^54-1)*2^970*10^800≤vF S)):=by
 have hn: ¬S.nd=0:=by have:=ok.pos;omega
 unfold FV;rw[af hn];by_cases h1:310<S.dp
 ·rw[au h1];exact⟨yg,⟨fun _=>.inl h1,fun _=>rfl⟩⟩
 ·rw[af h1];by_cases h2:S.dp< -330
  ·rw[au h2];have:=qg (m:=0) (x:=0) (by omega) (by omega) (by omega);refine⟨this,?_⟩;simp only[lE,false_iff];omega
  ·rw[af h2];obtain⟨a,b⟩:=No (S:=(zQ 34000 (uz 1000 S 0).1 (uz 1000 S 0).2).1) (e:=(zQ 34000 (uz 1000 S 0).1 (uz 1000 S 0).2).2-1);refine⟨a,?_⟩;rw[b];by_cases h3:S.dp<0
   ·rw[GG (by omega)];have:=Pd 34000 S 0;simp only;constructor
    ·rintro(h|h)<;>omega
    ·rintro(h|h)<;>omega
   ·have hD:=ok.gT.1 0 ok.pos;obtain⟨K,k1,k2,k3,k4⟩:=JS 1000 S 0 ok (by omega) (by omega) (by unfold Zn;split<;>omega);have qt:SG (uz 1000 S 0).1≤34000:=by unfold SG;rw[af (by omega)];omega
    obtain⟨J,j1,j2,j3,j4,j5⟩:=Fb 34000 (uz 1000 S 0).1 (uz 1000 S 0).2 k2 k3 qt;have DU:=Yn j2 j3 j4;have hE:(zQ 34000 (uz 1000 S 0).1 (uz 1000 S 0).2).2-1=(K:Int)-J-1:=by rw[j1,k1];omega
    rw[hE];generalize (zQ 34000 (uz 1000 S 0).1 (uz 1000 S 0).2).1=Sn at j2 j3 j4 j5 DU ⊢
    generalize (uz 1000 S 0).1=S1 at k2 k3 k4 j5;have hl:=O8 j2;have rb:=j2.pos;have hle:=j2.le;have hAA:10^Sn.nd=10*10^(Sn.nd-1):=by rw[←Bl];congr 1;omega
    have e8:(10:Nat)^Sn.nd*10^(800-Sn.nd)=10^800:=by rw[←ee];congr 1;omega
    have hvn:vF Sn=pre Sn.D Sn.nd Sn.nd*10^(800-Sn.nd):=by rw[vF,j3];simp
    have hD9:=j2.gT.1 0 rb;have AT:10^800≤2*vF Sn:=by
     rw[←e8,hvn,←ct];apply fi;have:5*10^(Sn.nd-1)≤(Sn.D 0-48)*10^(Sn.nd-1):=fi _ (by omega);omega
    have tj:vF Sn<10^800:=by
     rw[←e8,hvn];exact qN (xS j2.gT Sn.nd) (fb (by omega))
    have hS1:10^799≤vF S1:=by
     have hl1:=lW k2.gT k2.pos (S1.nd-1);have hp1:=k2.pos;have ar8:=k2.le;rw[I1 hp1]at hl1;have e9:(10:Nat)^(S1.nd-1)*10^(800-S1.nd)=10^799:=by rw[←ee];congr 1;omega
     rw[vF,k3,←e9,show 800+(0:Int).toNat-S1.nd=800-S1.nd by simp];exact fi _ hl1
    obtain⟨t1,t2,t3⟩:=YC (R:=FU (Sn.ls 53)=9007199254740992) 799 800 746 310 436 970 1024 rfl rfl rfl (by omega) rfl AT tj hS1 j5 k4 DU;rcases EA K (J+1024)with hK|hK|hK
    ·have ajG:=t1 hK;constructor
     ·rintro(h|h)<;>omega
     ·rintro(h|⟨_,_,h⟩)
      ·omega
      ·exact absurd h ajG
    ·rw[←t2 hK];constructor
     ·rintro(h|h)
      ·omega
      ·exact .inr ⟨by omega,by omega,h.2⟩
     ·rintro(h|⟨_,_,h⟩)
      ·omega
      ·exact .inr ⟨by omega,h⟩
    ·have ajH:=t3 hK;constructor
     ·rintro _;exact .inr ⟨by omega,by omega,ajH⟩
     ·rintro _;exact .inl (by omega)
def Ig:Nat:=36028797018963966
theorem ka (a:Nat):a|||1≤a+1:=by
 have h:a|||1=a/2*2+1:=by
  have h2:a/2*2+1=2^1*(a/2)+1:=by omega
  rw[h2,IU (by omega)];apply Nat.eq_of_testBit_eq;intro i;rw[Nat.testBit_or,Nat.testBit_or];cases i with
  |zero=>simp
  |succ i=>
   have e1:(2^1*(a/2)).testBit (i+1)=a.testBit (i+1):=by
    rw[Nat.testBit_two_pow_mul];simp[Nat.testBit_succ]
   rw[e1]
 omega
theorem kc (a:Nat):a≤a|||1:=Nat.left_le_or
theorem km (a:Nat):(a|||1)%2=1:=by
 simp
theorem Ft (a:Nat) {c:Nat} (h:c≤1):a≤a|||c∧a|||c≤a|||1:=by
 have:c=0∨c=1:=by omega
 rcases this with rfl|rfl
 ·rw[Nat.or_zero];exact⟨aS _,kc a⟩
 ·exact⟨kc a,aS _⟩
theorem yh (x hi lo s:Nat):(x*hi/18446744073709551616-1)/2^s≤gQ x hi lo s∧gQ x hi lo s≤(x*hi/18446744073709551616/2^s)|||1:=by
 unfold gQ;obtain⟨y,hy⟩: ∃y,y=x*hi/18446744073709551616:=⟨_,rfl⟩;rw[←hy];split
 ·exact⟨bP (Ey (Nat.sub_le _ _)) (kc _),aS _⟩
 ·obtain⟨b,hb,aW⟩: ∃b,b=(if x*hi%18446744073709551616<x*lo/18446744073709551616 then 1 else 0)∧b≤1:=⟨_,rfl,by split<;>omega⟩;obtain⟨c,hc,jQ⟩: ∃c,c=(if 1<(x*hi%18446744073709551616+18446744073709551616-x*lo/18446744073709551616)%18446744073709551616 then 1 else 0)∧c≤1:=⟨_,rfl,by split<;>omega⟩;rw[←hb,←hc];obtain⟨h1,h2⟩:=Ft ((y-b)/2^s) jQ;refine⟨bP (Ey (by omega)) h1,bP h2 ?_⟩;have h3:(y-b)/2^s≤y/2^s:=Ey (Nat.sub_le _ _);have h4:=km ((y-b)/2^s);have h5:=km (y/2^s);have h6:=ka ((y-b)/2^s);have h7:=kc (y/2^s);omega
theorem afP (h:256*Ig+1≤x*hi/18446744073709551616):Ig≤gQ x hi lo 8:=by
 unfold gQ;have e:(2:Nat)^8=256:=by decide
 rw[e];obtain⟨y,hy⟩: ∃y,y=x*hi/18446744073709551616:=⟨_,rfl⟩;rw[←hy]at h ⊢
 unfold Ig at*
 split
 ·exact bP (by omega) (kc _)
 ·rename_i hm;refine bP ?_ Nat.left_le_or;split<;>omega
theorem Z9 (h:x*hi/18446744073709551616<256*Ig):gQ x hi lo 8<Ig:=by
 have hb:=(yh x hi lo 8).2;have e:(2:Nat)^8=256:=by decide
 rw[e]at hb;have h1:=km (x*hi/18446744073709551616/256);have h2:=ka (x*hi/18446744073709551616/256);unfold Ig at*
 generalize x*hi/18446744073709551616=y at*
 omega
def pj:Nat:=(2^54-1)*2^970
def SQ (p:Nat):Nat:=(pj+10^p-1)/10^p
theorem Pe (p d:Nat):pj≤d*10^p↔SQ p≤d:=by
 have hP:0<10^p:=fb (by omega);unfold SQ;generalize 10^p=P at hP ⊢
 generalize pj=N;rw[Nat.div_le_iff_le_mul_add_pred hP,fA P d];omega
def TF (p : Nat) : Bool :=
  let L:=1024-(p*108853/32768)
  let T:=SQ p
  decide (p*108853/32768≤1023)&&decide (1≤L)&&decide (L≤61)&&decide (2^(L-1)≤T)&&decide (T≤2^L)&&
  decide ((T-1)*2^(64-L)*ef p/18446744073709551616<256*Ig)&&
  (if p = 290 then decide (Ig ≤ gQ (T * 2 ^ (64 - L)) (ef p) (kY p) 8) && decide (256 * Ig + 1 ≤ (T + 1) * 2 ^ (64 - L) * ef p / 18446744073709551616)
   else decide (256*Ig+1≤T*2^(64-L)*ef p/18446744073709551616))
theorem Q9:((List.range 19).all fun i=>TF (290+i))=true:=by kernel_rfl
def ajI:Bool:=Pinned.pow10Rows.all fun r=>decide (9223372036854775808≤r.1)&&decide (r.1≤18446744073709551616-18014398509481984)
theorem U5:ajI=true:=by kernel_rfl
theorem afQ:Pinned.pow10Rows.length=696:=by kernel_rfl
theorem xl (h0: -348≤p) (h1:p≤347):9223372036854775808≤ef p∧ef p≤18446744073709551616-18014398509481984:=by
 have hl:=afQ;have hi:(p+348).toNat<Pinned.pow10Rows.length:=by omega
 unfold ef;rw[lA,eG hi,Option.getD_some];have:=rq.1 U5 _ (jz hi);simp only[kN,uF]at this;exact this
theorem afR:10000000000000000000*ef ((289:Nat):Int)/18446744073709551616<256*Ig:=by decide+kernel
theorem abS:10000000000000000000<SQ 289:=by decide+kernel
theorem afS:SQ 309≤1∧SQ 310≤1:=by decide+kernel
theorem afT:10000000000000000000*10^288<pj:=by decide+kernel
theorem afU (h0:4503599627370496≤m) (h1:m<9007199254740992):m&&&4503599627370496≠0:=by
 intro h;have h2:(m&&&2^52).testBit 52=false:=by
  rw[show (2:Nat)^52=4503599627370496 by decide,h];simp
 rw[Nat.testBit_and,Nat.testBit_two_pow_self,Bool.and_true]at h2;have h3:m.testBit 52=true:=by
  rw[Nat.testBit_eq_decide_div_mod_eq,zY];rw[show (2:Nat)^52=4503599627370496 by decide];omega
 rw[h3]at h2;cases h2
theorem Fu (hm:m<9007199254740992) (h0: -1074≤e) (h1:e≤971):lQ m e<fa:=by
 unfold lQ;split
 ·show m<9218868437227405312;omega
 ·rw[af (by omega)];have hc:m&&&18442240474082181119=m%4503599627370496:=by
   have e1:m=m&&&(2^53-1):=by rw[DM];exact(tz (by simpa using hm)).symm
   conv=>lhs;rw[e1]
   rw[Nat.and_assoc,show (2^53-1:Nat)&&&18442240474082181119=2^52-1 by decide,DM]
  obtain⟨k,hk⟩: ∃k:Nat,k=(1075+e).toNat:=⟨_,rfl⟩;have zU:k≤2046:=by omega
  rw[hc,←hk,tz (show k*4503599627370496<18446744073709551616 by omega)];have ax:m%4503599627370496<4503599627370496:=mD _ (by omega);have e6:m%4503599627370496|||k*4503599627370496=k*4503599627370496+m%4503599627370496:=by
   have:=IU (i:=52) (b:=m%4503599627370496) ax k;rw[Nat.or_comm,fA k];exact this.symm
  rw[e6];show _<9218868437227405312;omega
theorem CQ (h1:u<72057594037927936-1024):PK u<9007199254740992∧(18014398509481983≤u→4503599627370496≤PK u):=by
 unfold PK xR;have ha:u&&&1≤1:=by rw[OJ];omega
 obtain⟨b1,b2⟩:=Ft (u/2^sG u) ha;have b3:=ka (u/2^sG u);have b4:=km (u/2^sG u);obtain⟨v,hv⟩: ∃v,v=u/2^sG u|||(u&&&1):=⟨_,rfl⟩;rw[←hv]at b1 b2 ⊢
 have hc:v/4&&&1≤1:=by rw[OJ];omega
 obtain⟨c,hcc⟩: ∃c,c=v/4&&&1:=⟨_,rfl⟩;rw[←hcc]at hc ⊢
 by_cases ht:36028797018963966≤u
 ·have e:sG u=1:=au ht;rw[e,Nat.pow_one]at b1 b2 b3 b4;omega
 ·have e:sG u=0:=af ht;rw[e,pA,Nat.div_one]at b1 b2 b3 b4;omega
theorem zH (h:0<d):2^d.log2≤d∧d<2^(d.log2+1):=⟨Nat.log2_self_le (by omega),Bg⟩
theorem Ra (hd:0<d) (pd:d≤10000000000000000000) (h0: -345≤p) (h1:p≤310):dU (lF d p)=true↔0≤p∧SQ p.toNat≤d:=by
 obtain⟨l1,l2⟩:=zH hd;obtain⟨g,hg⟩: ∃g,g=d.log2:=⟨_,rfl⟩;rw[←hg]at l1 l2;have ajJ:g≤63:=by
  rcases dF 63 g with h|h
  ·have:2^64≤2^g:=ek (by omega) h;omega
  ·exact h
 obtain⟨q1,q2⟩:=xl (p:=p) (by omega) (by omega);obtain⟨x,hx⟩: ∃x,x=d*2^(63-g):=⟨_,rfl⟩;have lC:9223372036854775808≤x:=by
  have:2^g*2^(63-g)≤d*2^(63-g):=fi _ l1;rw[←ee,show g+(63-g)=63 by omega]at this;rw[hx];simpa using this
 have mx:x<18446744073709551616:=by
  have:d*2^(63-g)<2^(g+1)*2^(63-g):=qN l2 (fb (by omega));rw[←ee,show g+1+(63-g)=64 by omega]at this;rw[hx];simpa using this
 obtain⟨A,hA⟩: ∃A:Int,A=((g+1:Nat):Int)+kX p:=⟨_,rfl⟩;have hE:DF d p=min 1074 (53-A):=by rw[DF,←hg,hA];congr 1;omega
 have hS:vt d p=61-(DF d p+A):=by rw[vt,←hg,hA];omega
 obtain⟨y,hy⟩: ∃y,y=x*ef p/18446744073709551616:=⟨_,rfl⟩;have hy2:y<18446744073709551616-18014398509481984:=by
  have:x*ef p<18446744073709551616*ef p:=qN mx (by omega);omega
 have hy1:4611686018427387904≤y:=by
  have:9223372036854775808*9223372036854775808≤x*ef p:=oA lC q1;omega
 have hU:LI d p=gQ x (ef p) (kY p) (vt d p).toNat:=by rw[LI,←hg,←hx]
 obtain⟨u1,u2⟩:=yh x (ef p) (kY p) (vt d p).toNat;rw[←hU,←hy]at u1 u2;obtain⟨u,hu⟩: ∃u,u=LI d p:=⟨_,rfl⟩;rw[←hu]at u1 u2 hU;have hs8:8≤vt d p:=by rw[hS,hE];omega
 have hp8:(2:Nat)^8≤2^(vt d p).toNat:=ek (by omega) (by omega);have Ls:u<72057594037927936-1024:=by
  have h2:y/2^(vt d p).toNat≤y/2^8:=OG hp8 (by decide);have h3:=ka (y/2^(vt d p).toNat);have e:(2:Nat)^8=256:=by decide
  rw[e]at h2;omega
 obtain⟨m1,m2⟩:=CQ Ls;have ht:sG u=0∨sG u=1:=by unfold sG;split<;>simp
 have ajK:dU (lF d p)=true↔1025≤A+sG u:=by
  unfold lF;rw[←hu];by_cases iL:64≤vt d p
  ·rw[au iL];have:dU 0=false:=kl (by decide);rw[this];rw[hS,hE]at iL;simp only[lE,false_iff];omega
  ·rw[af iL];by_cases hc:1025≤A+sG u
   ·have h8:(vt d p).toNat=8:=by rw[hS,hE];omega
    have e:(2:Nat)^8=256:=by decide
    rw[h8,e]at u1;have m3:=m2 (by omega);have:lQ (PK u) (-(DF d p-(sG u:Int)))=fa:=by
     unfold lQ;rw[af (afU m3 m1),au (by rw[hE];omega)];rfl
    rw[this,uT];simp[hc]
   ·have:lQ (PK u) (-(DF d p-(sG u:Int)))<fa:=Fu m1 (by rw[hE];omega) (by rw[hE];omega);rw[kl this];simp[hc]
 rw[ajK];have htu:sG u=1↔Ig≤u:=by
  unfold sG Ig;split<;>simp<;>omega
 have hlp:kX p=p*108853/32768:=rfl;by_cases ar9:p<0
 ·have:A+sG u<1025:=by rw[hA,hlp];omega
  constructor
  ·intro h;omega
  ·rintro⟨h,_⟩;omega
 ·obtain⟨n,rfl⟩: ∃n:Nat,p=(n:Int):=⟨p.toNat,by omega⟩;rw[my];have hAn:A=((g+1+n*108853/32768:Nat):Int):=by rw[hA,hlp];omega
  have h8s:A=1024→(vt d (n:Int)).toNat=8:=fun h=>by rw[hS,hE];omega
  by_cases c1:n≤288
  ·have tJ: ¬SQ n≤d:=by
    rw[←Pe];have h0:=OK n 288 c1;have h2:=afT;generalize 10^288=Q at h0 h2;generalize 10^n=P at h0 ⊢
    have h1:d*P≤10000000000000000000*Q:=oA pd h0;omega
   constructor
   ·intro h;omega
   ·rintro⟨_,h⟩;exact absurd h tJ
  ·by_cases c2:n=289
   ·subst c2;have tJ: ¬SQ 289≤d:=by have:=abS;omega
    constructor
    ·intro h;have ZB:A=1024:=by omega
     have ht1:sG u=1:=by omega
     have hx3:x=d:=by rw[hx,show 63-g=0 by omega,pA,ow]
     have ax:x*ef ((289:Nat):Int)/18446744073709551616<256*Ig:=by
      refine pw (Ey (fi _ ?_)) afR;omega
     have h2:=Z9 (lo:=kY ((289:Nat):Int)) ax;rw[h8s ZB]at hU;rw[←hU]at h2;have:=htu.1 ht1;omega
    ·rintro⟨_,h⟩;exact absurd h tJ
   ·by_cases c3:n≤308
    ·have aeL:TF n=true:=by
      have:=rq.1 Q9 (n-290) (qy.2 (by omega))
      rwa [show 290+(n-290)=n by omega]at this
     simp only[TF,kN,uF]at aeL;obtain⟨⟨⟨⟨⟨⟨k1,k2⟩,k3⟩,k4⟩,k5⟩,k6⟩,k7⟩:=aeL;obtain⟨Lp,hLp⟩: ∃Lp,Lp=1024-n*108853/32768:=⟨_,rfl⟩;obtain⟨Tp,hTp⟩: ∃Tp,Tp=SQ n:=⟨_,rfl⟩;rw[←hLp,←hTp]at k4 k6;rw[←hLp]at k2 k3;rw[←hLp,←hTp]at k5 k7;rw[←hTp];rcases EA (g+1) Lp with hL|hL|hL
     ·
      have h1:2^(g+1)≤2^(Lp-1):=ek (by omega) (by omega);constructor
      ·intro h;omega
      ·rintro⟨_,h⟩;omega
     ·
      have ZB:A=1024:=by omega
      have hx3:x=d*2^(64-Lp):=by rw[hx];congr 2;omega
      rw[h8s ZB]at hU;constructor
      ·intro h;refine⟨by omega,?_⟩;rcases dF d Tp with ax|mg
       ·exfalso;have hy3:x*ef (n:Int)/18446744073709551616<256*Ig:=by
         refine pw (Ey (fi _ ?_)) k6;rw[hx3];exact fi _ (by omega)
        have h2:=Z9 (lo:=kY (n:Int)) hy3;rw[←hU]at h2;have:=htu.1 (by omega);omega
       ·exact mg
      ·rintro⟨_,h⟩;have mg:Ig≤u:=by
        rw[hU];have up: ∀T,T≤d→256*Ig+1≤T*2^(64-Lp)*ef (n:Int)/18446744073709551616→Ig≤gQ x (ef (n:Int)) (kY (n:Int)) 8:=fun T hT hk=>by
         refine afP (bP hk (Ey (fi _ ?_)));rw[hx3];exact fi _ hT
        by_cases aeM:n=290
        ·rw[au aeM]at k7;simp only[kN,uF]at k7;rcases dF Tp d with ax|mg
         ·exact up (Tp+1) ax k7.2
         ·have:d=Tp:=by omega
          rw[hx3,this];exact k7.1
        ·rw[af aeM]at k7;exact up Tp h (nT k7)
       have:=htu.2 mg;omega
     ·
      have h1:2^Lp≤2^g:=ek (by omega) (by omega);constructor
      ·intro _;exact⟨by omega,by omega⟩
      ·intro _;omega
    ·have hT:SQ n≤1:=by
      have:=afS;have hn:n=309∨n=310:=by omega
      rcases hn with rfl|rfl
      ·exact this.1
      ·exact this.2
     constructor
     ·intro _;exact⟨by omega,by omega⟩
     ·intro _;omega
theorem Pf (hd:0<d) (pd:d≤10000000000000000000) (h0: -345≤p) (h1:p≤310):lF d p≤fa:=by
 obtain⟨l1,l2⟩:=zH hd;obtain⟨g,hg⟩: ∃g,g=d.log2:=⟨_,rfl⟩;rw[←hg]at l1 l2;have ajJ:g≤63:=by
  rcases dF 63 g with h|h
  ·have:2^64≤2^g:=ek (by omega) h;omega
  ·exact h
 obtain⟨q1,q2⟩:=xl (p:=p) (by omega) (by omega);obtain⟨x,hx⟩: ∃x,x=d*2^(63-g):=⟨_,rfl⟩;have lC:9223372036854775808≤x:=by
  have:2^g*2^(63-g)≤d*2^(63-g):=fi _ l1;rw[←ee,show g+(63-g)=63 by omega]at this;rw[hx];simpa using this
 have mx:x<18446744073709551616:=by
  have:d*2^(63-g)<2^(g+1)*2^(63-g):=qN l2 (fb (by omega));rw[←ee,show g+1+(63-g)=64 by omega]at this;rw[hx];simpa using this
 obtain⟨A,hA⟩: ∃A:Int,A=((g+1:Nat):Int)+kX p:=⟨_,rfl⟩;have hE:DF d p=min 1074 (53-A):=by rw[DF,←hg,hA];congr 1;omega
 have hS:vt d p=61-(DF d p+A):=by rw[vt,←hg,hA];omega
 obtain⟨y,hy⟩: ∃y,y=x*ef p/18446744073709551616:=⟨_,rfl⟩;have hy2:y<18446744073709551616-18014398509481984:=by
  have:x*ef p<18446744073709551616*ef p:=qN mx (by omega);omega
 have hy1:4611686018427387904≤y:=by
  have:9223372036854775808*9223372036854775808≤x*ef p:=oA lC q1;omega
 have hU:LI d p=gQ x (ef p) (kY p) (vt d p).toNat:=by rw[LI,←hg,←hx]
 obtain⟨u1,u2⟩:=yh x (ef p) (kY p) (vt d p).toNat;rw[←hU,←hy]at u1 u2;obtain⟨u,hu⟩: ∃u,u=LI d p:=⟨_,rfl⟩;rw[←hu]at u1 u2 hU;have hs8:8≤vt d p:=by rw[hS,hE];omega
 have hp8:(2:Nat)^8≤2^(vt d p).toNat:=ek (by omega) (by omega);have Ls:u<72057594037927936-1024:=by
  have h2:y/2^(vt d p).toNat≤y/2^8:=OG hp8 (by decide);have h3:=ka (y/2^(vt d p).toNat);have e:(2:Nat)^8=256:=by decide
  rw[e]at h2;omega
 obtain⟨m1,m2⟩:=CQ Ls;have ht:sG u=0∨sG u=1:=by unfold sG;split<;>simp
 unfold lF;rw[←hu];by_cases iL:64≤vt d p
 ·rw[au iL];exact dQ _
 ·rw[af iL];by_cases hc:972≤ -(DF d p-(sG u:Int))
  ·unfold lQ;split
   ·show PK u≤9218868437227405312;omega
   ·first|exact aS _|(rw[au hc];exact aS _)
  ·exact ju (Fu m1 (by rw[hE];omega) (by omega))
def DK (b:Nat):Nat:=if b/4503599627370496=0 then b else b%4503599627370496+4503599627370496
def AX (b:Nat):Int:=if b/4503599627370496=0 then-1074 else((b/4503599627370496:Nat):Int)-1075
theorem Fv (w:World) (b:Nat) (hb:b<9223372036854775808):
  Calls prog 141 #[.int .u64 (b:Int)] w fun e w'=>e= .returned (.tuple #[.int .u64 (DK b:Int),.int .i64 (AX b)])∧w'=w:=by
 obtain⟨M,hM⟩: ∃M,M=DK b:=⟨_,rfl⟩;obtain⟨E,hE⟩: ∃E,E=AX b:=⟨_,rfl⟩;rw[←hM,←hE];obtain⟨x,hx⟩: ∃x,x=b/4503599627370496:=⟨_,rfl⟩;have q1:(b:Int)/4503599627370496=(x:Int):=by omega
 unfold DK at hM;unfold AX at hE;rw[←hx]at hM hE;by_cases h0:x=0
 ·rw[au h0]at hM hE;subst hM hE;have p1:((x:Int)=0)=True:=aA (by omega);go_enter func141,ntmps141;go_wp2_with fail
  all_goals (go_ret2;exact⟨rfl,rfl⟩)
 ·rw[af h0]at hM hE;have p1:((x:Int)=0)=False:=bU (by omega);have ax:b%4503599627370496<4503599627370496:=mD _ (by decide);have q2:bits .and .u64 (b:Int) 4503599627370495=((b%4503599627370496:Nat):Int):=by
   have:=bits_and_u64_nat b 4503599627370495 (by omega) (by decide);rw[show (4503599627370495:Nat)=2^52-1 by decide,DM]at this;exact this
  obtain⟨ab0,IN⟩: ∃l,l=b%4503599627370496:=⟨_,rfl⟩;rw[←IN]at q2 hM ax;have q3:bits .or .u64 (ab0:Int) 4503599627370496=(M:Int):=by
   have h1:=bits_or_u64_nat ab0 4503599627370496 (by omega) (by decide);have h2:=IU (i:=52) (b:=ab0) (by simpa using ax) 1;rw[ow,show (2:Nat)^52=4503599627370496 by decide,Nat.or_comm]at h2;rw[←h2]at h1;rw[hM,Bm];exact h1
  have bx:x≤2047:=by omega
  clear hM hx IN;subst hE;go_enter func141,ntmps141;go_wp2_with fail
  all_goals (go_ret2;exact⟨rfl,rfl⟩)
theorem Pg (h:eu es) (h2:aC fs=aC es*2^k) (h3:Norm fs):fs.length≤es.length+k:=by
 apply mL h3;have h1:=qb es h;have h5:(2:Nat)^k≤4294967296^k:=Nat.pow_le_pow_left (by decide) k;rw[h2,ee];exact pw (uE _ h5) (qN h1 (fb (by decide)))
def Iz (m:Nat) (e:Int) (N D:Nat):Int:=if 0≤e then qT (m*D*2^e.toNat) N else qT (m*D) (N*2^(-e).toNat)
theorem zI (w:World) (m:Nat) (e:Int) (vn vd:Value) (ns ds:List Nat) (hm:m<18446744073709551616) (he0: -100000≤e) (he1:e≤100000) (hn:pN w vn ns) (hd:pN w vd ds) (tJ:eu ns) (hdo:eu ds) (qX:Norm ns) (IA:ns.length≤1000000) (Xm:ds.length≤1000000):
  Calls prog 142 #[.int .u64 (m:Int),.int .i64 e,vn,vd] w fun e' w'=>e'= .returned (.int .i64 (Iz m e (aC ns) (aC ds)))∧Below w.heap.size w w':=by
 obtain⟨V,hV⟩: ∃V,V=Iz m e (aC ns) (aC ds):=⟨_,rfl⟩;rw[←hV];obtain⟨lo,AT⟩: ∃lo,lo=m%4294967296:=⟨_,rfl⟩;obtain⟨hi,tj⟩: ∃hi,hi=m/4294967296:=⟨_,rfl⟩;have q1:(m:Int)%4294967296=(lo:Int):=by omega
 have q2:(m:Int)/4294967296=(hi:Int):=by omega
 have q3:IntKind.u32.wrap (m:Int)=(lo:Int):=by rw[rr];omega
 have q4:IntKind.u32.wrap (hi:Int)=(hi:Int):=by rw[rr];omega
 have q5:(hi:Int)%4294967296=(hi:Int):=by omega
 have vu:jv (w.alloc (.cells #[.int .u32 (lo:Int),.int .u32 (hi:Int)] 184)) w.heap.size (.slice (some ⟨w.heap.size,0,none⟩) 2 2) [lo,hi]:=yM (e:=184) (size:=1) w #[.int .u32 (lo:Int),.int .u32 (hi:Int)] 2 (aS _) (by unfold maxLen;omega) rfl;have aW:=(aV w.heap.size w).alloc (aS _) (.cells #[.int .u32 (lo:Int),.int .u32 (hi:Int)] 184);have lT:aC [lo,hi]=m:=by show lo+4294967296*(hi+4294967296*0)=m;rw[nh,iK];omega
 have cJ:eu [lo,hi]:=fun d hd=>by
  simp only[gB,kM,iP]at hd;rcases hd with rfl|rfl<;>omega
 have HP:=aa (zE (w.alloc (.cells #[.int .u32 (lo:Int),.int .u32 (hi:Int)] 184)) _ vd [lo,hi] ds vu.r (hd.below aW) cJ hdo (by simp) (by omega));have cn:=aa aW;have HV:=aa hV;have HVL:=aa lT;have HN:=aa (And.intro hn (And.intro tJ (And.intro qX hdo)));clear vu aW lT cJ hV hn hd tJ hdo qX AT tj;go_enter func142,ntmps142;go_wp2_with fail;have hp:Calls prog 130 #[.slice (some ⟨w.heap.size,0,none⟩) 2 2,vd] (w.alloc (.cells #[.int .u32 (lo:Int),.int .u32 (hi:Int)] 184)) (iy (w.alloc (.cells #[.int .u32 (lo:Int),.int .u32 (hi:Int)] 184)) (aC [lo,hi]*aC ds)):=HP;refine hp.mono ?_;rintro e' w2 ⟨⟨v2,es,rfl,f1,f2,f3,f4⟩,hb⟩;have Xg:Below w.heap.size w w2:=cn.trans (hb.mono cn.size);rw[HVL.out]at f2;have Xt:es.length≤ds.length+2:=by
  apply mL f3;have h1:=qb ds HN.2.2.2;rw[f2,Bm,ee];exact EE (by omega) h1
 have HA:=aa (And.intro f1 (And.intro f2 (And.intro f3 f4)));have HB:=aa Xg;have HL:=aa Xt;clear f1 f2 f3 f4 hb Xg Xt;by_cases h0:0≤e
 ·have p1:((0:Int)≤e)=True:=aA h0;obtain⟨k,hk⟩: ∃k:Nat,e=(k:Int):=⟨e.toNat,by omega⟩;subst hk;go_wp2_with fail;have hs:Calls prog 153 #[v2,.int .i64 (k:Int)] w2 (iy w2 (aC es*2^k)):=zB w2 v2 es k HA.1.r HA.2.2.2 (by have:=HL.out;omega) (by omega);refine hs.mono ?_;rintro e' w3 ⟨⟨v3,fs,rfl,g1,g2,g3,g4⟩,gb⟩;have gl:fs.length≤1200000:=bP (Pg HA.2.2.2 g2 g3) (by have:=HL.out;omega);have Sj:Below w.heap.size w w3:=HB.trans (gb.mono HB.size);have HG:=aa (And.intro g1 (And.intro g2 (And.intro g3 g4)));have HGL:=aa gl;have iF:=aa Sj;clear g1 g2 g3 g4 gb gl Sj;go_wp2_with fail;have hc:Calls prog 152 #[v3,vn] w3 fun e w'=>e= .returned (.int .i64 (qT (aC fs) (aC ns)))∧ ∃d,w'=w3.drewN d:=zD w3 v3 vn fs ns HG.1.r (HN.1.below iF) HG.2.2.2 HN.2.1 HG.2.2.1 HN.2.2.1 (by have:=HGL.out;omega) (by omega)
  refine hc.mono ?_;rintro e' w4 ⟨rfl,d,rfl⟩;have xN:qT (aC fs) (aC ns)=V:=by
   rw[HV.out,Iz,au h0,HG.out.2.1,HA.out.2.1,my]
  rw[xN];go_wp2_with fail;go_ret;exact⟨rfl,cr iF d⟩
 ·have p1:((0:Int)≤e)=False:=bU h0;obtain⟨k,hk⟩: ∃k:Nat,e= -(k:Int):=⟨(-e).toNat,by omega⟩;subst hk;have q6:(-(-(k:Int)))=(k:Int):=by omega
  go_wp2_with fail;have hs:Calls prog 153 #[vn,.int .i64 (k:Int)] w2 (iy w2 (aC ns*2^k)):=zB w2 vn ns k (HN.1.below HB) HN.2.1 (by omega) (by omega);refine hs.mono ?_;rintro e' w3 ⟨⟨v3,fs,rfl,g1,g2,g3,g4⟩,gb⟩;have gl:fs.length≤1200000:=bP (Pg HN.2.1 g2 g3) (by omega);have Sj:Below w.heap.size w w3:=HB.trans (gb.mono HB.size);have ha3:pN w3 v2 es:=HA.1.r.below gb;have HG:=aa (And.intro g1 (And.intro g2 (And.intro g3 g4)));have HGL:=aa gl;have iF:=aa Sj;have HA3:=aa ha3;clear g1 g2 g3 g4 gb gl Sj ha3;go_wp2_with fail;have hc:Calls prog 152 #[v2,v3] w3 fun e w'=>e= .returned (.int .i64 (qT (aC es) (aC fs)))∧ ∃d,w'=w3.drewN d:=zD w3 v2 v3 es fs HA3 HG.1.r HA.2.2.2 HG.2.2.2 HA.2.2.1 HG.2.2.1 (by have:=HL.out;omega) (by have:=HGL.out;omega)
  refine hc.mono ?_;rintro e' w4 ⟨rfl,d,rfl⟩;have xN:qT (aC es) (aC fs)=V:=by
   rw[HV.out,Iz,af (by omega),HG.out.2.1,HA.out.2.1,Int.neg_neg,my]
  rw[xN];go_wp2_with fail;go_ret;exact⟨rfl,cr iF d⟩
theorem uU (a b:Nat):(qT a b= -1∧a<b)∨(qT a b=0∧a=b)∨(qT a b=1∧b<a):=by
 unfold qT;by_cases h:a<b
 ·rw[au h];exact Or.inl ⟨rfl,h⟩
 ·rw[af h];by_cases h2:b<a
  ·rw[au h2];exact Or.inr (Or.inr ⟨rfl,h2⟩)
  ·rw[af h2];exact Or.inr (Or.inl ⟨rfl,by omega⟩)
theorem GN:qT a b≤0↔a≤b:=by
 rcases uU a b with⟨h,h2⟩|⟨h,h2⟩|⟨h,h2⟩<;>rw[h]<;>constructor<;>intro _<;>omega
theorem Fw (m:Nat) (e:Int) (N D:Nat):Iz m e N D= -1∨Iz m e N D=0∨Iz m e N D=1:=by
 unfold Iz;split
 ·rcases uU (m*D*2^e.toNat) N with h|h|h
  ·exact Or.inl h.1
  ·exact Or.inr (Or.inl h.1)
  ·exact Or.inr (Or.inr h.1)
 ·rcases uU (m*D) (N*2^(-e).toNat)with h|h|h
  ·exact Or.inl h.1
  ·exact Or.inr (Or.inl h.1)
  ·exact Or.inr (Or.inr h.1)
theorem Mq (hb:b<fa):DK b<9007199254740992:=by
 unfold DK;unfold fa at hb;split<;>omega
theorem Mr (hb:b<fa): -1074≤AX b∧AX b≤971:=by
 unfold AX;unfold fa at hb;split<;>omega
theorem abT {e:Nat} (hM:M<9007199254740992) (he:e≤a+1):M*2^e≤(2^54-1)*2^a:=by
 have h1:(2:Nat)^e≤2^(a+1):=ek (by decide) he;have h2:=oA (Nat.le_of_lt_succ hM) h1;rw[show (2:Nat)^(a+1)=2^a*2 from et (n:=2) (m:=a)]at h2;generalize (2:Nat)^a=X at h2 ⊢
 omega
theorem Fx {e:Nat} (hM:M<9007199254740992) (he:e≤971):M*2^e≤pj:=by
 unfold pj;generalize h:(970:Nat)=a;exact abT hM (by omega)
theorem YD (hb:b<fa) (h:pj*D≤N):Iz (DK b) (AX b) N D≤0:=by
 have h1:=Mq hb;have h2:=(Mr hb).2;unfold Iz;split
 ·rename_i h0;rw[GN,ct,fA D,←ct];exact bP (fi D (Fx h1 (by omega))) h
 ·rename_i h0;rw[GN];have h3:=Fx (e:=0) h1 (by omega);rw[pA,ow]at h3;have h4:N*1≤N*2^(-AX b).toNat:=uE N (fb (by decide));rw[ow]at h4;exact bP (fi D h3) (bP h h4)
theorem abU (N D:Nat):Iz (2*DK 9218868437227405311+1) (AX 9218868437227405311-1) N D≤0↔pj*D≤N:=by
 have h1:DK 9218868437227405311=9007199254740991:=by decide
 have h2:AX 9218868437227405311=971:=by decide
 rw[h1,h2];unfold Iz;rw[au (by decide),GN,show ((971:Int)-1).toNat=970 by decide];unfold pj;generalize (970:Nat)=a;rw[ct,fA D,←ct]
def r5 (w:World) (N D:Nat) (e:Ending) (w':World):Prop:=
 ∃b:Nat,e= .returned (.int .u64 (b:Int))∧b≤fa∧(fa≤b↔pj*D≤N)∧Below w.heap.size w w'
theorem GO (h:lo<fa) (ho:pj*D≤N→lo=9218868437227405311) (hT:lo=9218868437227405311→(A≤0↔pj*D≤N)) (hA:A≤0) (hb:Below w.heap.size w w'):
  r5 w N D (.returned (.int .u64 ((lo:Int)+1))) w':=by
 refine⟨lo+1,rfl,h,?_,hb⟩;unfold fa at h ⊢
 constructor
 ·intro h1;have h2:lo=9218868437227405311:=by omega
  exact(hT h2).mp hA
 ·intro h1;have:=ho h1;omega
theorem GP (h:lo<fa) (ho:pj*D≤N→lo=9218868437227405311) (hT:lo=9218868437227405311→(A≤0↔pj*D≤N)) (hA:A≤0→ ¬lo%2=1) (hb:Below w.heap.size w w'):
  r5 w N D (.returned (.int .u64 (lo:Int))) w':=by
 refine⟨lo,rfl,ju h,?_,hb⟩;constructor
 ·intro h1;omega
 ·intro h1;have h2:=ho h1;have h3:=(hT h2).mpr h1;exact absurd (by rw[h2]) (hA h3)
theorem zJ (w:World) (vn vd:Value) (ns ds:List Nat) (hn:pN w vn ns) (hd:pN w vd ds) (tJ:eu ns) (hdo:eu ds) (qX:Norm ns) (IA:ns.length≤1000000) (Xm:ds.length≤1000000):
  Calls prog 131 #[vn,vd] w (r5 w (aC ns) (aC ds)):=by
 have HN:=aa (And.intro hn (And.intro tJ (And.intro qX (And.intro hdo hd))));clear hn tJ qX hdo hd;go_enter func131,ntmps131;go_wp2_with fail;go_loopw [5,6,7,8,9] (fun t5 t6 t7 t8 t9 wr=> ∃(lo hi:Nat),Hid (lo≤hi∧hi<fa∧(pj*aC ds≤aC ns→hi=9218868437227405311)∧Below w.heap.size w wr)∧t5= .int .u64 (lo:Int)∧t6= .int .u64 (hi:Int)) (fun t5 t6 _ _ _ _=>(intOf t6).toNat-(intOf t5).toNat)
 case atStart=>exact⟨0,9218868437227405311,aa ⟨by decide,by decide,fun _=>rfl,aV _ _⟩,rfl,rfl⟩
 case round=>
  obtain⟨lo,hi,HI,rfl,rfl⟩:=hrel;by_cases ax:lo<hi
  ·have p1:((lo:Int)<(hi:Int))=True:=aA (by omega);have tj:hi<9218868437227405312:=HI.2.1;obtain⟨mid,XP⟩: ∃m:Nat,m=lo+(hi-lo+1)/2:=⟨_,rfl⟩;have q1:((lo:Int)+((hi:Int)-(lo:Int)+1)/2)=(mid:Int):=by omega
   have m1:lo<mid:=by omega
   have m2:mid≤hi:=by omega
   clear XP;have hmi:mid<fa:=pw m2 HI.2.1;go_wp2_with fail;refine(Fv wr mid (by omega)).mono ?_;rintro e' w1 ⟨rfl,hw⟩;subst w1;have hM:=aa (Mq hmi);have hE:=aa (Mr hmi);have hA:=aa (Fw (DK mid) (AX mid) (aC ns) (aC ds));have hO:=aa (fun h:pj*aC ds≤aC ns=>YD hmi h);have ha:Calls prog 142 #[.int .u64 (DK mid:Int),.int .i64 (AX mid),vn,vd] wr fun e' w'=>e'= .returned (.int .i64 (Iz (DK mid) (AX mid) (aC ns) (aC ds)))∧Below wr.heap.size wr w':=
    zI wr (DK mid) (AX mid) vn vd ns ds (by have:=hM.out;omega) (by have:=hE.out;omega) (by have:=hE.out;omega) (HN.1.below HI.2.2.2) (HN.2.2.2.2.below HI.2.2.2) HN.2.1 HN.2.2.2.1 HN.2.2.1 IA Xm
   have HW:=aa ha;clear ha hmi;generalize Iz (DK mid) (AX mid) (aC ns) (aC ds)=A at HW hA hO;generalize DK mid=M at HW hM ⊢
   generalize AX mid=E at HW hE ⊢
   go_wp2_with fail;refine HW.mono ?_;rintro e' w2 ⟨rfl,hb⟩;have HB:=aa (HI.2.2.2.trans (hb.mono HI.2.2.2.size));clear hb;by_cases hle:A≤0
   ·have p2:(A≤0)=True:=aA hle;go_wp2_with fail;exact⟨⟨mid,hi,aa ⟨m2,HI.2.1,HI.2.2.1,HB⟩,rfl,rfl⟩,by show hi-mid<hi-lo;omega⟩
   ·have p2:(A≤0)=False:=bU hle;go_wp2_with fail;have q3:((mid:Int)-1)=((mid-1:Nat):Int):=by omega
    rw[q3];exact⟨⟨lo,mid-1,aa ⟨by omega,by have:=HI.2.1;omega,fun h=>absurd (hO h) (Int.not_le.mpr hle),HB⟩,rfl,rfl⟩,by show (mid-1)-lo<hi-lo;omega⟩
  ·have p1:((lo:Int)<(hi:Int))=False:=bU (by omega);have tj:hi<9218868437227405312:=HI.2.1;have hlh:lo=hi:=by have:=HI.1;omega
   subst hlh;go_wp2_with fail;refine(Fv wr lo (by omega)).mono ?_;rintro e' w1 ⟨rfl,hw⟩;subst w1;have hM:=aa (Mq tj);have hE:=aa (Mr tj);have hA:=aa (Fw (2*DK lo+1) (AX lo-1) (aC ns) (aC ds));have hT:=aa (fun h:lo=9218868437227405311=>(by subst h;exact abU (aC ns) (aC ds):Iz (2*DK lo+1) (AX lo-1) (aC ns) (aC ds)≤0↔pj*aC ds≤aC ns));have ha:Calls prog 142 #[.int .u64 ((2*DK lo+1:Nat):Int),.int .i64 (AX lo-1),vn,vd] wr fun e' w'=>e'= .returned (.int .i64 (Iz (2*DK lo+1) (AX lo-1) (aC ns) (aC ds)))∧Below wr.heap.size wr w':=
    zI wr (2*DK lo+1) (AX lo-1) vn vd ns ds (by have:=hM.out;omega) (by have:=hE.out;omega) (by have:=hE.out;omega) (HN.1.below HI.2.2.2) (HN.2.2.2.2.below HI.2.2.2) HN.2.1 HN.2.2.2.1 HN.2.2.1 IA Xm
   have HW:=aa ha;clear ha;generalize Iz (2*DK lo+1) (AX lo-1) (aC ns) (aC ds)=A at HW hA hT;generalize DK lo=M at HW hM ⊢
   generalize AX lo=E at HW hE ⊢
   have bM:M<9007199254740992:=hM;have bE:=hE.out;go_wp2_with fail;have ha2:Calls prog 142 #[.int .u64 (2*(M:Int)+1),.int .i64 (E-1),vn,vd] wr fun e' w'=>e'= .returned (.int .i64 A)∧Below wr.heap.size wr w':=HW
   refine ha2.mono ?_;rintro e' w2 ⟨rfl,hb⟩;have HB:=aa (HI.2.2.2.trans (hb.mono HI.2.2.2.size));clear hb ha2;by_cases XN:lo%2=1
   ·have p2:((lo:Int)%2=1)=True:=aA (by omega);have p3:(((lo:Int)%2)==1)=true:=by rw[cC];omega
    rcases hA.out with rfl|rfl|rfl
    all_goals (go_wp2_with fail)
    ·go_ret;exact GO tj HI.2.2.1 hT (by decide) HB
    ·go_ret;exact GO tj HI.2.2.1 hT (by decide) HB
    ·go_ret;exact GP tj HI.2.2.1 hT (fun h=>absurd h (by decide)) HB
   ·have p2:((lo:Int)%2=1)=False:=bU (by omega);have p3:(((lo:Int)%2)==1)=false:=by rw[bN];omega
    rcases hA.out with rfl|rfl|rfl
    all_goals (go_wp2_with fail)
    ·go_ret;exact GO tj HI.2.2.1 hT (by decide) HB
    ·go_ret;exact GP tj HI.2.2.1 hT (fun _=>XN) HB
    ·go_ret;exact GP tj HI.2.2.1 hT (fun _=>XN) HB
theorem uV:Ieee.double.signWeight=9223372036854775808∧Ieee.double.infRung=9218868437227405312∧Ieee.double.binade=4503599627370496∧Ieee.double.leastPlace= -1074∧Ieee.double.fractionBits=52:=by decide+kernel
theorem log2_lt (h:m<2^(k+1)):m.log2≤k:=by
 rcases jS m with h0|h0
 ·rw[h0];simp
 ·have h1:=Nat.log2_self_le (n:=m) (by omega);rcases dF k m.log2 with hh|hh
  ·have:2^(k+1)≤2^m.log2:=ek (by omega) hh;omega
  ·exact hh
theorem Cf {w:Nat} (hk:k≤1000) (h:w≤(1023+k)*4503599627370496): ∃m e,Ieee.double.read w= .number false m e∧(m.log2:Int)+e≤k:=by
 obtain⟨hs,hi,hb,hp,_⟩:=uV;have e1:w/9223372036854775808=0:=tO (by omega);have e2:w%9223372036854775808=w:=tz (by omega);unfold Ieee.Format.read;rw[hs,hi,hb,hp,e1,e2];simp only[Nat.zero_mod];split
 ·rename_i ax;have:=log2_lt (m:=w) (k:=51) (by omega);exact⟨_,_,rfl,by omega⟩
 ·rw[au (by omega)];have:=log2_lt (m:=4503599627370496+w%4503599627370496) (k:=52) (by omega);exact⟨_,_,rfl,by omega⟩
theorem abV (h:n<2^(53+drop)):Ieee.Toward.even.cut false n drop≤9007199254740992:=by
 have e53:(2:Nat)^53=9007199254740992:=by decide
 unfold Ieee.Toward.cut;simp only[Nat.one_shiftLeft];have hb (b:Bool):b.toNat≤1:=by cases b<;>decide
 rcases dF (n.log2+2) drop with hd|hd
 ·rw[qw (by omega)];have h2:=Bg (n:=n);have h3:n/2^(n.log2+2)=0:=tO (gU h2 (ek (by omega) (by omega)));rw[h3];have:=hb (decide (2^(n.log2+2)<2*(n%2^(n.log2+2)))||2^(n.log2+2)==2*(n%2^(n.log2+2))&&0%2==1);omega
 ·rw[mW hd];have h3:n/2^drop<2^53:=by
   rw[zX (fb (by omega)),←ee];exact h
  have:=hb (decide (2^drop<2*(n%2^drop))||2^drop==2*(n%2^drop)&&n/2^drop%2==1);omega
theorem sk (h:(m.log2:Int)+e≤k):Ieee.double.nearest false m e≤(1024+k)*4503599627370496:=by
 obtain⟨hs,hi,hb,hp,hf⟩:=uV;unfold Ieee.Format.nearest;split
 ·simp[Ieee.Format.word]
 ·rw[hi,hb,hp,hf];simp only[Ieee.Format.word,lE,iG];obtain⟨last,hl⟩: ∃last:Int,last=max (e+(m.log2:Int)-((52:Nat):Int)) (-1074):=⟨_,rfl⟩;rw[←hl];have hm:=Bg (n:=m);have hc:Ieee.Toward.even.cut false (m<<<(e-last).toNat) (last-e).toNat≤9007199254740992:=by
   apply abV;rw[Nat.shiftLeft_eq];have h1:m*2^(e-last).toNat<2^(m.log2+1)*2^(e-last).toNat:=qN hm (fb (by omega));rw[←ee]at h1;exact gU h1 (ek (by omega) (by omega))
  refine bP (Nat.min_le_left _ _) ?_;have h5:(last+1074).toNat≤1022+k:=by omega
  have h6:(last- -1074).toNat=(last+1074).toNat:=by omega
  rw[h6];have h7:(last+1074).toNat*4503599627370496≤(1022+k)*4503599627370496:=fi _ h5;generalize Ieee.Toward.even.cut false (m<<<(e-last).toNat) (last-e).toNat=c at hc ⊢
  have h8:(1024+k)*4503599627370496=(1022+k)*4503599627370496+9007199254740992:=by rw[show 1024+k=(1022+k)+2 by omega,oB]
  rw[h8];exact Nat.add_le_add h7 hc
theorem U6:(m*n).log2≤m.log2+n.log2+1:=by
 have h1:=Bg (n:=m);have h2:=Bg (n:=n);apply log2_lt;have:m*n<2^(m.log2+1)*2^(n.log2+1):=EE h1 h2;rw[←ee]at this;exact gU this (ek (by omega) (by omega))
theorem Ph (ha:a≤1000) (hb:b≤1000) (hx:x≤(1023+a)*4503599627370496) (hy:y≤(1023+b)*4503599627370496):vH x y≤(1023+(a+b+2))*4503599627370496:=by
 obtain⟨m,i,hm,qt⟩:=Cf ha hx;obtain⟨n,j,hn,xz⟩:=Cf hb hy;have LY:floatBits .mul .f64 x y=((Ieee.double.read x).product (Ieee.double.read y)).map Ieee.double.write:=rfl;unfold vH;rw[LY,hm,hn];show Ieee.double.nearest (false^^false) (m*n) (i+j)≤_;have h3:=U6 (m:=m) (n:=n);have:=sk (m:=m*n) (e:=i+j) (k:=a+b+1) (by omega);rw[show 1023+(a+b+2)=1024+(a+b+1)by omega];exact this
theorem GQ: ∀k,k<23→fl k≤(1023+74)*4503599627370496∧(match Ieee.double.read (fl k)with| .number false n j=>decide (n≠0)&&decide (0≤(n.log2:Int)+j)|_=>false)=true:=by decide+kernel
theorem YE (ha:a≤1000) (hx:x≤(1023+a)*4503599627370496) (hk:k<23):Ge x (fl k)≤(1023+(a+1))*4503599627370496:=by
 obtain⟨m,i,hm,qt⟩:=Cf ha hx;have hp:=(GQ k hk).2;have LY:floatBits .quo .f64 x (fl k)=((Ieee.double.read x).quotient (Ieee.double.fractionBits+2) (Ieee.double.read (fl k))).map Ieee.double.write:=rfl;unfold Ge;rw[LY,hm];split at hp
 ·rename_i n j hn;simp only[kN,uF]at hp;rw[hn];simp only[Ieee.Datum.quotient,af hp.1];obtain⟨more,γ⟩: ∃more,more=Ieee.double.fractionBits+2+n.log2-m.log2:=⟨_,rfl⟩;rw[←γ];have hf:Ieee.double.fractionBits=52:=rfl;rw[hf]at γ;show Ieee.double.nearest (false^^false) (2*(m<<<more/n)+(m<<<more%n != 0).toNat) (i-j-more-1)≤_;have hq:(2*(m<<<more/n)+(m<<<more%n != 0).toNat).log2≤m.log2+more-n.log2+1:=by
   apply log2_lt;have h1:=Bg (n:=m);have h2:=Nat.log2_self_le (n:=n) hp.1;have h3:m<<<more<2^(m.log2+1+more-n.log2)*n:=by
    rw[Nat.shiftLeft_eq];have h4:m*2^more<2^(m.log2+1)*2^more:=qN h1 (fb (by omega));have h5:2^(m.log2+1)*2^more=2^(m.log2+1+more-n.log2)*2^n.log2:=by rw[←ee,←ee];congr 1;omega
    have h6:2^(m.log2+1+more-n.log2)*2^n.log2≤2^(m.log2+1+more-n.log2)*n:=uE _ h2;omega
   have h7:m<<<more/n<2^(m.log2+1+more-n.log2):=(zX (by omega)).2 h3;have h8:(m<<<more%n != 0).toNat≤1:=by cases (m<<<more%n != 0)<;>decide
   have h9:(2:Nat)^(m.log2+more-n.log2+1+1)=2*2^(m.log2+1+more-n.log2):=by rw[←Bl];congr 1;omega
   rw[h9];omega
  have:=sk (m:=2*(m<<<more/n)+(m<<<more%n != 0).toNat) (e:=i-j-more-1) (k:=a) (by omega);rw[show 1023+(a+1)=1024+a by omega];exact this
 ·cases hp
theorem U7 (h:m<4503599627370496):floatOfInt .f64 (m:Int)≤(1023+52)*4503599627370496:=by
 have hd:floatOfInt .f64 (m:Int)=Ieee.double.nearest (decide ((m:Int)<0)) m 0:=rfl;rw[hd,gA (by omega)];have:=log2_lt (m:=m) (k:=51) (by omega);exact sk (k:=51) (by omega)
theorem Np (h:fQ m p=some x):dU x=false∧m<4503599627370496∧p≤37:=by
 unfold fQ at h;by_cases h0:m/4503599627370496≠0
 ·rw[au h0]at h;cases h
 ·rw[af h0]at h;have hm:m<4503599627370496:=by omega
  have hf:=U7 hm;have fin: ∀{k w:Nat},k≤1000→w≤(1023+k)*4503599627370496→dU w=false:=fun hk hw=>kl (by show _<9218868437227405312;omega)
  by_cases h1:p=0
  ·rw[au h1]at h;injection h with h
   subst h;exact⟨fin (by omega) hf,hm,by omega⟩
  ·rw[af h1]at h;by_cases h2:0<p∧p≤37
   ·rw[au h2]at h;refine⟨?_,hm,h2.2⟩;obtain⟨z,hz⟩: ∃z,z=(if 22<p then vH (floatOfInt .f64 (m:Int)) (fl (p-22).toNat)else floatOfInt .f64 (m:Int)):=⟨_,rfl⟩;rw[←hz]at h;have ZC:z≤(1023+128)*4503599627370496:=by
     rw[hz];split
     ·have h9:=Ph (a:=52) (b:=74) (by omega) (by omega) hf (GQ (p-22).toNat (by omega)).1;exact h9
     ·omega
    split at h
    ·cases h
    ·injection h with h
     rw[←h];refine fin (k:=128+74+2) (by omega) (Ph (by omega) (by omega) ZC (GQ _ ?_).1);split<;>omega
   ·rw[af h2]at h;split at h
    ·rename_i h3;injection h with h
     rw[←h];exact⟨fin (k:=52+1) (by omega) (YE (by omega) hf (by omega)),hm,by omega⟩
    ·cases h
theorem Rb (h:x≤fa) (he:FloatKind.f64.format.order x fa=some .eq):x=fa:=by
 rcases dF x fa with ax|mg
 ·exfalso;have h1:x<9218868437227405312:=ax;have hi:Ieee.double.read fa= .infinity false:=by decide+kernel
  have he':(Ieee.double.read x).order (Ieee.double.read fa)=some .eq:=he;rw[hi]at he';obtain⟨hs,hir,hb,hp,_⟩:=uV;have e1:x/9223372036854775808=0:=tO (by omega);have e2:x%9223372036854775808=x:=tz (by omega);have hr: ∃m e,Ieee.double.read x= .number false m e:=by
   unfold Ieee.Format.read;rw[hs,hir,hb,hp,e1,e2];simp only[Nat.zero_mod];split
   ·exact⟨_,_,rfl⟩
   ·exact⟨_,_,rfl⟩
  obtain⟨m,e,hr⟩:=hr;rw[hr]at he';simp[Ieee.Datum.order]at he'
 ·omega
def ia (N:Nat) (X:Int):Prop:=pj*10^(-X).toNat≤N*10^X.toNat
theorem TG (h: -X≤K):ia N X↔pj*10^K≤N*10^(X+K).toNat:=by
 unfold ia;have hP:0<10^(K-(-X).toNat):=fb (by omega);have e1:10^K=10^(-X).toNat*10^(K-(-X).toNat):=by rw[←ee];congr 1;omega
 have e2:10^(X+K).toNat=10^X.toNat*10^(K-(-X).toNat):=by rw[←ee];congr 1;omega
 rw[e1,e2,←ct,←ct,yG hP]
theorem AO (h:N≤M) (ho:ia N X):ia M X:=bP ho (fi _ h)
theorem r6:ia (m*10^c) X↔ia m (X+c):=by
 rw[TG (N:=m*10^c) (K:=(-X).toNat) (by omega),TG (N:=m) (K:=(-X).toNat) (by omega),ct,←ee];rw[show c+(X+((-X).toNat:Int)).toNat=(X+c+((-X).toNat:Int)).toNat by omega]
theorem abW:10^308≤pj:=by decide+kernel
theorem abX:pj≤10^309:=by decide+kernel
theorem Ms (h:10^a≤N) (hx:309≤X+a):ia N X:=by
 refine AO h ?_;have:=(r6 (m:=1) (c:=a) (X:=X)).2;rw[Bp]at this;apply this;unfold ia;rw[show (-(X+(a:Int))).toNat=0 by omega,pA,ow,Bp];exact bP abX (OK 309 _ (by omega))
theorem oN (h:N≤10^a) (hx:X+a≤307): ¬ia N X:=by
 intro ho;have h1:=AO h ho;have h2:=(r6 (m:=1) (c:=a) (X:=X)).1;rw[Bp]at h2;have h3:=h2 h1;unfold ia at h3;rw[Bp]at h3;have h4:=abW;have h5:=OK (X+(a:Int)).toNat 307 (by omega);have h6:pj*1≤pj*10^(-(X+(a:Int))).toNat:=uE _ (fb (by decide));have h7:=aey 307 308 rfl;rw[h7]at h4;have h8:=abJ 307;generalize (10:Nat)^307=Q at h4 h5 h8;generalize (10:Nat)^(X+(a:Int)).toNat=R at h3 h5;omega
theorem Pj: ¬ia 0 X:=by
 unfold ia;rw[yT];have h1:0<pj:=by decide+kernel
 have h2:0<10^(-X).toNat:=fb (by decide);have:=Nat.mul_pos h1 h2;omega
theorem nK (h:k<l.length):dG l (k+1)=jZ (dG l k) (aq l k):=by
 have:l[k]=aq l k:=by rw[aq,lA,eG h];rfl
 rw[dG,jy h,yL,this];rfl
structure Rel (l:List UInt8) (k:Nat):Prop where
 nd:(fo l k).nd=(dT l k).nd
 dp:(fo l k).dp=(dT l k).dp
 dot:(fo l k).dot=(dT l k).dot
 pt:(dG l k).Bu=(dT l k).dot
 tI:(fo l k).tI=min (dT l k).nd 19
 num:dn (dT l k).D (dT l k).nd=(dG l k).n
 beh:(dT l k).dot=true→(dT l k).dp=(dT l k).nd-((dG l k).behind:Int)
 ara:(dT l k).dot=false→(dG l k).behind=0
 fm: ∃r,(dG l k).n=(fo l k).fm*10^((dT l k).nd-min (dT l k).nd 19)+r∧r<10^((dT l k).nd-min (dT l k).nd 19)∧((fo l k).tr=false→r=0)
 pos:0<(dT l k).nd→0<(fo l k).fm
 zer:(dT l k).nd=0→(fo l k).fm=0
theorem T7 {l:List UInt8} {m:Nat} (h:lH l m): ∀k,k≤m→Rel l k
 |0,_=>⟨rfl,rfl,rfl,rfl,rfl,rfl,(fun h=>by cases h),(fun _=>rfl),⟨0,rfl,fb (by decide),fun _=>rfl⟩,(fun h=>by simp[mn,ds0]at h),fun _=>rfl⟩
 |k+1,hk=>by
  have hl:=h.1;obtain⟨i1,i2,i3,i4,i5,i6,i7,i8,⟨r,i9,i10,i11⟩,i12,i13⟩:=T7 h k (by omega);have hc:=h.2 k (by omega);have Gj:=BT (l:=l) k (by omega);have e1:=iz (l:=l) (k:=k) (by omega);have e2:=mq (l:=l) (k:=k) (by omega);have e3:=nK (l:=l) (k:=k) (by omega);generalize aq l k=c at hc e1 e2 e3;generalize fo l k=R at*
  generalize dT l k=D at*
  generalize dG l k=M at*
  obtain⟨Rm,arb,vw,Rdp,arc,ajL,Rtr⟩:=R;obtain⟨DD,Dnd,Ddp,ard⟩:=D;obtain⟨Mn,Mb,Mp⟩:=M;simp only at*
  subst i1 i2 i3 i4 i5;by_cases oo:c.toNat=46
  ·have hd:Mp=false:=by
    rcases hc with hc|hc
    ·have:=aI hc;omega
    ·exact Gj fun j hj=>hc.2 j hj
   have f1:fo l (k+1)=⟨Rm,min vw 19,vw,vw,true,ajL,Rtr⟩:=by rw[e1,gM,au oo]
   have f2:dT l (k+1)=⟨DD,vw,vw,true⟩:=by rw[e2,lI,au oo]
   have f3:dG l (k+1)=⟨Mn,Mb,true⟩:=by rw[e3,jZ,au oo]
   have hb:=i8 hd;refine⟨?_,?_,?_,?_,?_,?_,?_,?_,?_,?_,?_⟩<;>simp only[f1,f2,f3]
   ·exact i6
   ·intro _;omega
   ·intro h;cases h
   ·exact⟨r,i9,i10,i11⟩
   ·exact i12
   ·exact i13
  ·have qI:=aI (hc.resolve_right fun h=>oo h.1);by_cases hz:c.toNat=48∧vw=0
   ·obtain⟨cK,rfl⟩:=hz;have f1:fo l (k+1)=⟨Rm,min 0 19,0,Rdp-1,Mp,true,Rtr⟩:=by rw[e1,gM,af oo,au ⟨cK,rfl⟩]
    have f2:dT l (k+1)=⟨DD,0,Rdp-1,Mp⟩:=by rw[e2,lI,af oo,au ⟨cK,rfl⟩]
    have f3:dG l (k+1)=⟨Mn*10+(c.toNat-48),if Mp=true then Mb+1 else Mb,Mp⟩:=by rw[e3,jZ,af oo]
    have hM:Mn=0:=by rw[←i6];rfl
    have hRm:=i13 rfl;refine⟨?_,?_,?_,?_,?_,?_,?_,?_,?_,?_,?_⟩<;>simp only[f1,f2,f3]
    ·rw[hM,cK];rfl
    ·intro hp;have:=i7 hp;rw[au hp];omega
    ·intro hp;rw[hp];exact i8 hp
    ·refine⟨0,?_,by decide,fun _=>rfl⟩;rw[hM,cK,hRm];rfl
    ·intro h;omega
    ·intro _;exact hRm
   ·have f2:dT l (k+1)=⟨Ib DD vw c.toNat,vw+1,Rdp,Mp⟩:=by rw[e2,lI,af oo,af hz]
    have f3:dG l (k+1)=⟨Mn*10+(c.toNat-48),if Mp=true then Mb+1 else Mb,Mp⟩:=by rw[e3,jZ,af oo]
    have Ad:dn (Ib DD vw c.toNat) (vw+1)=Mn*10+(c.toNat-48):=by
     rw[dn,JR (E:=DD) vw fun i hi=>by unfold Ib;rw[af (by omega)],i6];unfold Ib;rw[au rfl]
    have Tg:Mp=true→(Rdp:Int)=((vw+1:Nat):Int)-((if Mp=true then Mb+1 else Mb:Nat):Int):=by
     intro hp;have:=i7 hp;rw[au hp];omega
    have ε:Mp=false→(if Mp=true then Mb+1 else Mb)=0:=by
     intro hp;rw[hp];exact i8 hp
    by_cases h19:min vw 19<19
    ·have ax:vw<19:=by omega
     have hm0:vw-min vw 19=0:=by omega
     have f1:fo l (k+1)=⟨Rm*10+(c.toNat-48),min vw 19+1,vw+1,Rdp,Mp,true,Rtr⟩:=by rw[e1,gM,af oo,af hz,au h19]
     rw[hm0,pA]at i9 i10;have hr0:r=0:=by omega
     refine⟨?_,?_,?_,?_,?_,?_,?_,?_,?_,?_,?_⟩<;>simp only[f1,f2,f3]
     ·omega
     ·exact Ad
     ·exact Tg
     ·exact ε
     ·refine⟨0,?_,fb (by decide),fun _=>rfl⟩;rw[show vw+1-min (vw+1) 19=0 by omega,pA,i9,hr0];omega
     ·intro _;rcases jS vw with h0|h0
      ·have:c.toNat≠48:=fun h=>hz ⟨h,h0⟩
       omega
      ·have:=i12 h0;omega
     ·intro h;omega
    ·have mg:19≤vw:=by omega
     have f1:fo l (k+1)=⟨Rm,min vw 19,vw+1,Rdp,Mp,true,Rtr||c.toNat != 48⟩:=by rw[e1,gM,af oo,af hz,af h19]
     rw[qw mg]at i9 i10;refine⟨?_,?_,?_,?_,?_,?_,?_,?_,?_,?_,?_⟩<;>simp only[f1,f2,f3]
     ·omega
     ·exact Ad
     ·exact Tg
     ·exact ε
     ·refine⟨r*10+(c.toNat-48),?_,?_,?_⟩
      ·rw[qw (by omega),show vw+1-19=(vw-19)+1 by omega,et,i9,←ct];generalize Rm*10^(vw-19)=Q;omega
      ·rw[qw (by omega),show vw+1-19=(vw-19)+1 by omega,et];omega
      ·intro h;simp only[Bool.or_eq_false_iff,I0]at h;rw[i11 h.1,h.2]
     ·intro _;exact i12 (by omega)
     ·intro h;omega
theorem YF:10000000000000000000<pj:=by decide+kernel
theorem Pk (hd:0<d) (pd:d≤10000000000000000000) (h0: -345≤p) (h1:p≤310):dU (lF d p)=true↔ia d p:=by
 rw[Ra hd pd h0 h1];by_cases hp:0≤p
 ·obtain⟨n,rfl⟩: ∃n:Nat,p=(n:Int):=⟨p.toNat,by omega⟩;rw[my,←Pe];unfold ia;rw[show (-(n:Int)).toNat=0 by omega,pA,ow,my];exact⟨fun h=>h.2,fun h=>⟨by omega,h⟩⟩
 ·have: ¬ia d p:=oN (a:=19) pd (by omega);constructor
  ·rintro⟨h,_⟩;exact absurd h hp
  ·intro h;exact absurd h this
theorem Rc (hm:lH l (bO l)) (hl:bO l≤512) (he: -100009≤gm l∧gm l≤100009):dU (L4 l)=true↔ia (dG l (bO l)).n (gm l-((dG l (bO l)).behind:Int)):=by
 have hr:=T7 hm (bO l) (aS _);have hds:=wu hm (bO l) (aS _);have hrf:=AK hm (bO l) (aS _);obtain⟨X,hX⟩: ∃X,X=gm l-((dG l (bO l)).behind:Int):=⟨_,rfl⟩;obtain⟨i1,i2,i3,i4,i5,i6,i7,i8,⟨r,i9,i10,i11⟩,i12,i13⟩:=hr;have uA:(if (dT l (bO l)).dot then(dT l (bO l)).dp else((dT l (bO l)).nd:Int))+gm l-((dT l (bO l)).nd:Int)=X:=by
  cases hd:(dT l (bO l)).dot
  ·have:=i8 hd;simp only[lE,iG];omega
  ·have:=i7 hd;simp only[kT];omega
 have ζ:dU 0=false:=kl (by decide);rw[←hX];unfold L4;obtain⟨d,hd⟩: ∃d,d=(fo l (bO l)).fm:=⟨_,rfl⟩;obtain⟨n,hn⟩: ∃n,n=(dT l (bO l)).nd:=⟨_,rfl⟩;obtain⟨N,hN⟩: ∃N,N=(dG l (bO l)).n:=⟨_,rfl⟩;have are:d<10000000000000000000:=by
  have h1:=hrf.fm;rw[←hd]at h1;have h2:(10:Nat)^(fo l (bO l)).tI≤10^19:=ek (by decide) hrf.tI.1;have h3:(10:Nat)^19=10000000000000000000:=by decide
  omega
 rw[←hn]at i1 i5 i6 i9 i10 i12 i13 uA;rw[←hN]at i6 i9 ⊢
 rw[←hd]at i9 i12 i13 ⊢
 unfold DR;by_cases h0:d=0
 ·rw[au h0,ζ];have SR:n=0:=by
   rcases jS n with h|h
   ·exact h
   ·have:=i12 h;omega
  have tl:N=0:=by rw[←i6,SR];rfl
  rw[tl];exact⟨fun h=>(by cases h),fun h=>absurd h Pj⟩
 ·rw[af h0];obtain⟨c,hc⟩: ∃c,c=n-min n 19:=⟨_,rfl⟩;rw[←hc]at i9 i10;have hp:oE (fo l (bO l)) (gm l)=X+(c:Int):=by
   unfold oE;rw[←hd,au h0,i3,i2,i1,i5];have:((min n 19:Nat):Int)=(n:Int)-c:=by omega
   rw[this];omega
  rw[hp];have low:ia d (X+c)→ia N X:=fun h=>by
   have:=r6.2 h;exact AO (by rw[i9];omega) this
  have high:ia N X→ia (d+1) (X+c):=fun h=>by
   refine r6.1 (AO ?_ h);rw[i9,Nat.succ_mul];omega
  by_cases h1:310<X+(c:Int)
  ·rw[au h1,uT];exact⟨fun _=>low (Ms (a:=0) (by omega) (by omega)),fun _=>rfl⟩
  ·rw[af h1];by_cases h2:X+(c:Int)< -345
   ·rw[au h2,ζ];exact⟨fun h=>(by cases h),fun h=>absurd (high h) (oN (a:=19) (by omega) (by omega))⟩
   ·rw[af h2];have hpf:=Pk (d:=d) (p:=X+c) (by omega) (by omega) (by omega) (by omega);have ajM:=Pk (d:=d+1) (p:=X+c) (by omega) (by omega) (by omega) (by omega);cases Ih:(fo l (bO l)).tr
    ·
     rw[af (by simp)];have hr0:=i11 Ih;have heq:ia N X↔ia d (X+c):=by rw[i9,hr0,iK];exact r6
     cases hex:fQ d (X+c)with
     |none=>
      simp only;rw[hpf,heq]
     |some x=>
      simp only;obtain⟨e1,e2,e3⟩:=Np hex;rw[e1,heq];have Γ:(4503599627370496:Nat)≤10^16:=by decide
      exact⟨fun h=>(by cases h),fun h=>absurd h (oN (a:=16) (by omega) (by omega))⟩
    ·rw[au rfl];by_cases ho:(FloatKind.f64.format.order (lF d (X+c)) (lF (d+1) (X+c))==some .eq)=true
     ·rw[au ho,hpf];refine⟨low,fun h=>?_⟩;have h3:=ajM.2 (high h);have hle:=Pf (d:=d+1) (p:=X+c) (by omega) (by omega) (by omega) (by omega);have h4:lF (d+1) (X+c)=fa:=by
       rcases dF (lF (d+1) (X+c)) fa with ax|mg
       ·rw[kl ax]at h3;cases h3
       ·omega
      rw[h4]at ho;have h5:=Rb (Pf (d:=d) (p:=X+c) (by omega) (by omega) (by omega) (by omega)) (by simpa using ho);rw[←hpf,h5];exact uT
     ·rw[af ho];have SR:0<n:=by
       rcases jS n with h|h
       ·exact absurd (i13 h) h0
       ·exact h
      have ok:(Io l (bO l) (gm l)).Ok:=⟨hds.gT,(by show 0<(dT l (bO l)).nd;omega),(by show (dT l (bO l)).nd≤800;have:=hds.nd;omega)⟩;obtain⟨f1,f2⟩:=U4 ok;rw[f1,f2];have hSd:(Io l (bO l) (gm l)).dp=X+n:=by
       show (if (dT l (bO l)).dot then(dT l (bO l)).dp else((dT l (bO l)).nd:Int))+gm l=_;rw[←hn];omega
      have hSn:(Io l (bO l) (gm l)).nd=n:=hn.symm;have IM:pre (Io l (bO l) (gm l)).D n n=N:=by rw[TY _ _ n (aS _)];exact i6
      have arf:n≤512:=by have:=hds.nd;omega
      have ajN:10^(n-1)≤N:=by
       rw[←IM];have:=lW ok.gT ok.pos (n-1);rw[hSn,I1 SR]at this;exact this
      have ajO:N<10^n:=by
       rw[←IM];have:=xS ok.gT n;rw[hSn]at this;exact this
      have hv:vF (Io l (bO l) (gm l))=N*10^(800+(X+n).toNat-n):=by rw[vF,hSn,IM,hSd]
      rw[hSd,hv];have ajP:(2^54-1)*2^970=pj:=by rw[pj]
      rw[ajP];by_cases g1:310<X+(n:Int)
      ·exact⟨fun _=>Ms ajN (by omega),fun _=>.inl g1⟩
      ·by_cases g2:X+(n:Int)<0
       ·have tJ:=oN (ju ajO) (X:=X) (by omega);constructor
        ·rintro(h|⟨h,_⟩)<;>omega
        ·intro h;exact absurd h tJ
       ·rw[TG (N:=N) (X:=X) (K:=800) (by omega),show (X+((800:Nat):Int)).toNat=800+(X+n).toNat-n by omega];constructor
        ·rintro(h|⟨_,_,h⟩)
         ·omega
         ·exact h
        ·intro h;exact .inr ⟨by omega,by omega,h⟩
def lg (l:List UInt8) (k:Nat):Nat:=((l.drop 2).take (k-2)).foldl (fun n c=>n*16+mB c) 0
theorem Fy (l:List UInt8):lg l 2=0:=by simp[lg]
theorem CR (hj:2≤k) (h:k<l.length):lg l (k+1)=lg l k*16+mB (aq l k):=by
 have hk:k-2<(l.drop 2).length:=by simp;omega
 have:(l.drop 2)[k-2]=aq l k:=by
  rw[vR,aq,lA,eG h];simp[show 2+(k-2)=k by omega]
 rw[lg,show k+1-2=k-2+1 by omega,jy hk,yL,this];rfl
theorem U8 {c:UInt8} (h:gX c=true) (hc:c.toNat≠48):1≤mB c:=by
 unfold mB;split
 ·rename_i hd;have:=aI hd;omega
 ·rename_i hd;have:=BX c h (by simpa using hd);omega
theorem Rd {c:UInt8} (hc:c.toNat=48):mB c=0:=by
 unfold mB;have:digit c=true:=by simp[digit,hc]
 rw[au this];omega
structure ajQ (l:List UInt8) (k:Nat):Prop where
 tI:(eJ l k).tI=min (eJ l k).nd 16
 fm: ∃r,lg l k=(eJ l k).fm*16^((eJ l k).nd-min (eJ l k).nd 16)+r∧r<16^((eJ l k).nd-min (eJ l k).nd 16)∧((eJ l k).tr=false→r=0)∧((eJ l k).tr=true→0<r∧16<(eJ l k).nd)
 pos:0<(eJ l k).nd→16^(min (eJ l k).nd 16-1)≤(eJ l k).fm
 zer:(eJ l k).nd=0→(eJ l k).fm=0
theorem YG (h:EK l m): ∀k,2≤k→k≤m→ajQ l k:=by
 intro k hk;induction k with
 |zero=>omega
 |succ k ih=>
  intro hm;have hl:=h.1;by_cases he:k+1=2
  ·rw[he];refine⟨?_,⟨0,?_,?_,?_,?_⟩,?_,?_⟩<;>simp[BW,Fy]
  ·obtain⟨i1,⟨r,i2,i3,i4,i5⟩,i6,i7⟩:=ih (by omega) (by omega);have hx:=h.2 k (by omega) (by omega);have hv:=GJ _ hx;have e1:=mr (l:=l) (k:=k) (by omega) (by omega);have e2:=CR (l:=l) (k:=k) (by omega) (by omega);have F1:(aq l k).toNat=48→mB (aq l k)=0:=Rd;have SL:(aq l k).toNat≠48→1≤mB (aq l k):=U8 hx;generalize aq l k=c at*
   generalize eJ l k=R at*
   generalize lg l k=N at*
   obtain⟨M,Nm,D,tr⟩:=R;simp only at*
   subst i1;by_cases hz:c.toNat=48∧D=0
   ·have f1:eJ l (k+1)=⟨M,min D 16,D,tr⟩:=by rw[e1,oc,au hz]
    obtain⟨cK,rfl⟩:=hz;have hM:=i7 rfl;have hN:N=0:=by rw[i2,hM];simp at i3;omega
    refine⟨?_,⟨0,?_,?_,?_,?_⟩,?_,?_⟩<;>simp only[f1,e2]
    ·rw[hN,F1 cK,hM];rfl
    ·decide
    ·intro _;trivial
    ·intro Ih;have:=(i5 Ih).2;omega
    ·intro h;omega
    ·intro _;exact hM
   ·by_cases Γ:min D 16<16
    ·have ax:D<16:=by omega
     have f1:eJ l (k+1)=⟨M*16+mB c,min D 16+1,D+1,tr⟩:=by rw[e1,oc,af hz,au Γ]
     rw[show D-min D 16=0 by omega,pA]at i2 i3;have htf:tr=false:=by cases tr;rfl;exact absurd (i5 rfl).2 (by omega)
     refine⟨?_,⟨0,?_,?_,?_,?_⟩,?_,?_⟩<;>simp only[f1,e2]
     ·omega
     ·rw[show D+1-min (D+1) 16=0 by omega,pA,i2];omega
     ·exact fb (by decide)
     ·intro _;trivial
     ·intro h;rw[htf]at h;cases h
     ·intro _;rw[show min (D+1) 16-1=D by omega];rcases jS D with h0|h0
      ·have:=SL fun h=>hz ⟨h,h0⟩
       rw[h0,pA];omega
      ·have h1:=i6 h0;rw[show min D 16-1=D-1 by omega]at h1;have h2:16^D=16^(D-1)*16:=by rw[←et];congr 1;omega
       rw[h2];omega
     ·intro h;omega
    ·have mg:16≤D:=by omega
     have f1:eJ l (k+1)=⟨M,min D 16,D+1,tr||c.toNat != 48⟩:=by rw[e1,oc,af hz,af Γ]
     rw[qw mg]at i2 i3 i6;refine⟨?_,⟨r*16+mB c,?_,?_,?_,?_⟩,?_,?_⟩<;>simp only[f1,e2]
     ·omega
     ·rw[qw (by omega),show D+1-16=(D-16)+1 by omega,et,i2,←ct];generalize M*16^(D-16)=Q;omega
     ·rw[qw (by omega),show D+1-16=(D-16)+1 by omega,et];omega
     ·intro h;simp only[Bool.or_eq_false_iff,I0]at h;rw[i4 h.1,F1 h.2]
     ·intro h;simp only[tP,jA,ne_eq]at h;refine⟨?_,by omega⟩;rcases h with h|h
      ·have:=(i5 h).1;omega
      ·have:=SL h;omega
     ·intro _;rw[qw (by omega)];exact i6 (by omega)
     ·intro h;omega
def xO (Z m s:Nat):Prop:=if m%2=0 then Z=m*2^s else(m-1)*2^s<Z∧Z<(m+1)*2^s
theorem JZ (h:Z=m*2^s):xO Z m s:=by
 unfold xO;have hP:0<2^s:=fb (by decide);split
 ·exact h
 ·rename_i ho;rw[h];exact⟨qN (by omega) hP,qN (by omega) hP⟩
theorem YH (h:xO Z m s):xO Z (m/2|||m%2) (s+1):=by
 have hP:0<2^s:=fb (by decide);have e2:(2:Nat)^(s+1)=2*2^s:=by rw[et,fA]
 unfold xO at h;by_cases he:m%2=0
 ·rw[au he]at h;rw[he,Nat.or_zero];apply JZ;rw[e2,←ct,h,show m/2*2=m by omega]
 ·rw[af he]at h;have h1:m%2=1:=by omega
  obtain⟨a,ha⟩: ∃a,a=m/2:=⟨_,rfl⟩;have hm:m=2*a+1:=by omega
  rw[h1,←ha];have ho:=km a;have hle:=ka a;have mg:=kc a;unfold xO;rw[af (by omega),e2];rw[hm]at h;obtain⟨g1,g2⟩:=h;generalize 2^s=P at*
  have h3:((a|||1)-1)*(2*P)≤(2*a+1-1)*P:=by
   have e:((a|||1)-1)*(2*P)=(2*((a|||1)-1))*P:=by rw[←ct,fA _ 2]
   rw[e];exact fi _ (by omega)
  have h4:(2*a+1+1)*P≤((a|||1)+1)*(2*P):=by
   have e:((a|||1)+1)*(2*P)=(2*((a|||1)+1))*P:=by rw[←ct,fA _ 2]
   rw[e];exact fi _ (by omega)
  omega
theorem TH (h:xO Z m s) (hc:c%2=0):c≤m↔c*2^s≤Z:=by
 have hP:0<2^s:=fb (by decide);unfold xO at h;generalize 2^s=P at*
 by_cases he:m%2=0
 ·rw[au he]at h;rw[h];exact⟨fun h=>fi _ h,fun h=>Tt h hP⟩
 ·rw[af he]at h;constructor
  ·intro hh;have:c*P≤(m-1)*P:=fi _ (by omega);omega
  ·intro hh;have h1:c*P<(m+1)*P:=by omega
   have:=Nat.lt_of_mul_lt_mul_right h1;omega
theorem Fz: ∀(f m:Nat) (e:Int),∃j,j≤f∧(lC f m e).2=e-j∧(lC f m e).1=m*2^j
 |0,m,e=>⟨0,aS _,by simp[lC],by simp[lC]⟩
 |f+1,m,e=>by
  rw[lC];split
  ·obtain⟨j,h1,h2,h3⟩:=Fz f (m*2) (e-1);exact⟨j+1,by omega,by rw[h2];omega,by rw[h3,et,ct,fA 2]⟩
  ·exact⟨0,dQ _,by simp,by simp⟩
theorem T8 {Z:Nat}: ∀(f m:Nat) (e:Int) (s:Nat),xO Z m s→ ∃j,j≤f∧(mx f m e).2=e+j∧xO Z (mx f m e).1 (s+j)∧((mx f m e).1=m∨18014398509481984≤(mx f m e).1)
 |0,m,e,s,h=>⟨0,aS _,by simp[mx],by simpa [mx]using h,.inl (by simp[mx])⟩
 |f+1,m,e,s,h=>by
  rw[mx];split
  ·rename_i hm;obtain⟨j,h1,h2,h3,h4⟩:=T8 f (m/2|||m%2) (e+1) (s+1) (YH h);refine⟨j+1,by omega,by rw[h2];omega,by rw[show s+(j+1)=s+1+j by omega];exact h3,.inr ?_⟩;rcases h4 with h4|h4
   ·rw[h4];have:=Nat.left_le_or (n:=m/2) (m:=m%2);omega
   ·exact h4
  ·exact⟨0,dQ _,by simp,by simpa using h,.inl rfl⟩
theorem afV:dU (gL 4503599627370496 2047).toNat=true:=by decide+kernel
theorem yj (hm:m<18446744073709551616) (he: -1023≤e):dU (wg m e).1=true↔1023<e:=by
 unfold wg;split
 ·rename_i h;simp only[afV];exact⟨fun _=>h,fun _=>trivial⟩
 ·rename_i h;simp only[qg hm (show (0:Int)≤e+1023 by omega) (by omega)];exact⟨fun h=>(by cases h),fun h2=>absurd h2 h⟩
theorem Re (h1:18014398509481984≤m) (h2:m<36028797018963968) (he: -1025≤e):dU (yZ m e).1=true↔1024≤e+2∨(e+2=1023∧36028797018963966≤m):=by
 have hq:4503599627370496≤m/4∧m/4<9007199254740992:=by omega
 unfold yZ;by_cases hr:hxR m=3
 ·rw[au hr];by_cases Eo:m/4+1=9007199254740992
  ·rw[au Eo];have qt:36028797018963966≤m:=by
    have ho:m/4%2=1:=by omega
    unfold hxR at hr;rw[show (3:Nat)=2^2-1 by decide,DM,ho]at hr;have h4:m%2^2=0∨m%2^2=1∨m%2^2=2∨m%2^2=3:=by omega
    rcases h4 with h|h|h|h
    ·rw[h]at hr;simp at hr
    ·rw[h]at hr;simp at hr
    ·omega
    ·omega
   unfold qB;rw[af (by omega),yj (by omega) (by omega)];omega
  ·rw[af Eo];unfold qB;rw[af (by omega),yj (by omega) (by omega)];omega
 ·rw[af hr];have qt: ¬36028797018963966≤m:=by
   intro hm;apply hr;have ho:m/4%2=1:=by omega
   unfold hxR;rw[show (3:Nat)=2^2-1 by decide,DM,ho];have h4:m%2^2=2∨m%2^2=3:=by omega
   rcases h4 with h|h<;>rw[h]<;>decide
  unfold qB;rw[af (by omega),yj (by omega) (by omega)];omega
theorem U9:dU (SH 0 0 false).1=false:=by decide+kernel
theorem afW (σ c:Nat) (h:σ+2≤c):36028797018963968*2^σ≤(2^54-1)*2^c:=by
 refine bP (uE _ (ek (by decide) (show σ≤c-2 by omega))) ?_;rw[show (2:Nat)^c=4*2^(c-2)by rw[show (4:Nat)=2^2 by decide,←ee];congr 1;omega];generalize (2:Nat)^(c-2)=y;omega
theorem abY (σ c:Nat) (h:c=σ+1):36028797018963966*2^σ=(2^54-1)*2^c:=by
 rw[h,show (2:Nat)^(σ+1)=2*2^σ from Bl];generalize (2:Nat)^σ=y;omega
theorem afX (σ c:Nat) (h:c≤σ):(2^54-1)*2^c≤18014398509481984*2^σ:=by
 have h2:(2:Nat)^c≤2^σ:=ek (by decide) h;exact bP (uE _ h2) (fi _ (by decide))
theorem J0 (h1:lC 54 m (p+52)=(m1,e1)) (hs:e1=(s:Int)-8) (dz:xO Z (Ab m1 tr) s) (AT:18014398509481984≤Ab m1 tr) (tj:Ab m1 tr<18446744073709551616):
  dU (SH m p tr).1=true↔pj*2^60≤Z:=by
 unfold SH;rw[h1];obtain⟨j,j1,j2,j3,j4⟩:=T8 9 (Ab m1 tr) e1 s dz;have gV:=BV 9 (Ab m1 tr) e1 (by rw[show (2:Nat)^(55+9)=18446744073709551616 by decide];exact tj);have Xu:18014398509481984≤(mx 9 (Ab m1 tr) e1).1:=by rcases j4 with h|h<;>omega
 simp only;generalize mx 9 (Ab m1 tr) e1=q at*
 obtain⟨m3,e3⟩:=q;simp only at*
 rw[Re Xu gV.1 (by omega)];obtain⟨σ,hσ⟩: ∃σ,σ=s+j:=⟨_,rfl⟩;rw[←hσ]at j3;have he3:e3=(σ:Int)-8:=by omega
 have Lz:pj*2^60=(2^54-1)*2^1030:=by
  unfold pj;generalize h1:(970:Nat)=a;generalize h2:(1030:Nat)=c;exact afG _ a 60 c (by omega)
 rw[Lz];rcases EA σ 1029 with hc|hc|hc
 ·have h2:=(TH j3 (c:=36028797018963968) (by decide)).2;have hZ:Z<36028797018963968*2^σ:=by
   rcases dF Z (36028797018963968*2^σ)with h|h
   ·exact h
   ·have:=h2 h;omega
  have h6:=gU hZ (afW σ 1030 (by omega));generalize (2^54-1)*2^1030=V at h6 ⊢
  clear h2 hZ Lz j3;constructor
  ·rintro(h|h)<;>omega
  ·intro h;omega
 ·have h2:=TH j3 (c:=36028797018963966) (by decide);have h4:=abY σ 1030 (by rw[hc]);rw[h4]at h2;rw[←h2];constructor
  ·rintro(h|h)
   ·omega
   ·exact h.2
  ·intro h;exact .inr ⟨by omega,h⟩
 ·have h2:=(TH j3 (c:=18014398509481984) (by decide)).1 Xu;have h3:=afX σ 1030 (by omega);constructor
  ·intro _;have h9:=bP h3 h2;exact h9
  ·intro _;exact .inl (by omega)
theorem Rf (h:EK l l.length) (h2:2<l.length):dU (L3 l)=true↔pj≤lg l l.length:=by
 obtain⟨i1,⟨r,i2,i3,i4,i5⟩,i6,i7⟩:=YG h l.length (by omega) (aS _);have cJ:=GK h l.length (by omega) (aS _);unfold L3;generalize eJ l l.length=R at*
 generalize lg l l.length=N at*
 obtain⟨M,Nm,D,tr⟩:=R;obtain⟨⟨k1,k2,k3⟩,k4⟩:=cJ;simp only at*
 subst i1;have ajR:M<18446744073709551616:=by
  have h5:(16:Nat)^min D 16≤16^16:=ek (by decide) (by omega);have h6:(16:Nat)^16=18446744073709551616:=by decide
  omega
 by_cases hM:M=0
 ·have hD:D=0:=by
   rcases jS D with h0|h0
   ·exact h0
   ·have:=i6 h0;have hp:0<16^(min D 16-1):=fb (by decide);omega
  have Ih:tr=false:=by cases tr;rfl;exact absurd (i5 rfl).2 (by omega)
  have hN:N=0:=by rw[i2,hM,i4 Ih];omega
  rw[hM,Ih,hN];simp only[ne_eq,not_true_eq_false,iG,U9];have:0<pj:=by decide+kernel
  constructor
  ·intro h;cases h
  ·intro h;omega
 ·rw[au hM];obtain⟨c,hc⟩: ∃c,c=D-min D 16:=⟨_,rfl⟩;rw[←hc]at i2 i3;have hp:4*(D:Int)-4*((min D 16:Nat):Int)=((4*c:Nat):Int):=by omega
  rw[hp];have Wy:(16:Nat)^c=2^(4*c):=by rw[show (16:Nat)=2^4 by decide,←Nat.pow_mul]
  have mA:pj≤N↔pj*2^60≤N*2^60:=(yG (show 0<2^60 by decide)).symm;rw[mA];cases Ih:tr
  ·have hr0:=i4 Ih;obtain⟨j,j1,j2,j3⟩:=Fz 54 M (((4*c:Nat):Int)+52);have gV:=BU 54 M (((4*c:Nat):Int)+52) (fun h0=>by
    have:1*2^54≤M*2^54:=fi _ (by omega);have e:(2:Nat)^54=18014398509481984:=by decide
    omega) ajR
   generalize hh:lC 54 M (((4*c:Nat):Int)+52)=q at*
   obtain⟨m1,e1⟩:=q;simp only at*
   have pa:m1≠0:=by rw[j3];exact Nat.ne_of_gt (Nat.mul_pos (by omega) (fb (by decide)))
   refine J0 (s:=4*c+60-j) hh (by omega) ?_ (by show _≤m1;exact gV.2.1 pa) (by show m1<_;exact gV.1);apply JZ;show N*2^60=m1*2^(4*c+60-j);rw[i2,hr0,iK,Wy,j3,ct,ct,←ee,←ee]
   congr 2
   omega
  ·obtain⟨r0,arh⟩:=i5 Ih;have iL:=i6 (by omega);rw[show min D 16-1=15 by omega,show (16:Nat)^15=1152921504606846976 by decide]at iL;have hh:=O3 (m:=M) (by omega) (((4*c:Nat):Int)+52) 54;have ho:=km M;have hle:=ka M;have mg:=kc M;have ax:M|||1<2^64:=EB (by omega) (by decide);refine J0 (s:=4*c+60) hh (by omega) ?_ (by show _≤M|||1;omega) (by show M|||1<_;omega);show xO (N*2^60) (M|||1) (4*c+60);unfold xO;rw[af (by omega),i2,Wy,ee];rw[Wy]at i3;generalize 2^(4*c)=P at*
   have e60:0<2^60:=by decide
   generalize 2^60=Q at*
   rw[←ct,←ct,Nat.mul_lt_mul_right e60,Nat.mul_lt_mul_right e60];have g1:((M|||1)-1)*P≤M*P:=fi _ (by omega);have g2:(M+1)*P≤((M|||1)+1)*P:=fi _ (by omega);rw[Nat.succ_mul]at g2;omega
def ew (a:Nat) (c:UInt8):Option Nat:=
 if a=8∧ux c=true then some 9
 else if a=9∨a=10 then(if gX c=true then some 10 else none)
 else if digit c=true then(if a=0 then(if c.toNat=48 then some 8 else some 1)else if a=1∨a=8 then some 1 else if a=2∨a=3∨a=4 then some 4 else some 7)
 else if c.toNat=46 then(if a=0 then some 3 else if a=1∨a=8 then some 2 else none)
 else if tF c=true then(if a=1∨a=8∨a=2∨a=4 then some 5 else none)
 else if Aa c=true then(if a=5 then some 6 else none)
 else none
def BH (a:Nat):Bool:=a==1||a==8||a==2||a==4||a==7||a==10
def pf (a n i:Nat):List UInt8→Nat
 |[]=>n
 |c::r=>match ew a c with
  |none=>n
  |some b=>pf b (if BH b then i+1 else n) (i+1) r
theorem J1 (h:i<l.length):l.drop i=aq l i::l.drop (i+1):=by
 rw[pq h];rw[show aq l i=l[i]by rw[aq,lA,eG h];rfl]
theorem lZ (h:i<l.length) (hs:ew a (aq l i)=none):pf a n i (l.drop i)=n:=by
 rw[J1 h,pf,hs]
theorem rP (h:l.length≤i):pf a n i (l.drop i)=n:=by
 rw[uD h,pf]
theorem eZ (h:i<l.length) (hs:ew a (aq l i)=some b):pf a n i (l.drop i)=pf b (if BH b then i+1 else n) (i+1) (l.drop (i+1)):=by
 rw[J1 h,pf,hs]
theorem gF {p:UInt8→Bool} (h:i<l.length) (hp:p (aq l i)=true):ae p l i=ae p l (i+1):=by
 refine(iC h ?_).symm
 rwa [show l[i]=aq l i by rw[aq,lA,eG h];rfl]
theorem T9 (l:List UInt8): ∀d i,l.length-i=d→pf 10 i i (l.drop i)=ae gX l i
 |0,i,h=>by rw[rP (by omega),bR (by omega)]
 |d+1,i,h=>by
  have hi:i<l.length:=by omega
  cases hx:gX (aq l i)
  ·rw[lZ hi (by simp[ew,hx]),dx hi hx]
  ·rw[eZ hi (b:=10) (by simp[ew,hx]),gF hi hx];exact T9 l d (i+1) (by omega)
theorem Cg (l:List UInt8): ∀d i,l.length-i=d→pf 7 i i (l.drop i)=ae digit l i
 |0,i,h=>by rw[rP (by omega),bR (by omega)]
 |d+1,i,h=>by
  have hi:i<l.length:=by omega
  cases hx:digit (aq l i)
  ·rw[lZ hi (by simp[ew,hx]),dx hi hx]
  ·rw[eZ hi (b:=7) (by simp[ew,hx]),gF hi hx];exact Cg l d (i+1) (by omega)
theorem wQ (l:List UInt8) (j:Nat) (h:j<l.length) (hd:digit (aq l j)=true):j<ae digit l j:=by
 rw[gF h hd];have:=aX digit l (j+1);omega
theorem YI:pf 6 n j (l.drop j)=if j<ae digit l j then ae digit l j else n:=by
 by_cases h:j<l.length
 ·cases hd:digit (aq l j)
  ·rw[lZ h (by simp[ew,hd]),dx h hd,af (by omega)]
  ·rw[eZ h (b:=7) (by simp[ew,hd]),au (wQ l j h hd)];show pf 7 (j+1) (j+1) _=_;rw[Cg l _ (j+1) rfl,gF h hd]
 ·rw[rP (by omega),bR (by omega),af (by omega)]
theorem Va: ∀c:UInt8,Aa c=true→digit c=false∧(c.toNat=46)=False∧tF c=false∧ux c=false:=iA (by decide+kernel)
theorem YK: ∀c:UInt8,tF c=true→digit c=false∧(c.toNat=46)=False∧ux c=false:=iA (by decide+kernel)
theorem Pm: ∀c:UInt8,c.toNat=46→digit c=false∧tF c=false∧ux c=false:=iA (by decide+kernel)
theorem YL: ∀c:UInt8,ux c=true→digit c=false∧(c.toNat=46)=False∧tF c=false:=iA (by decide+kernel)
theorem abZ (h:i<l.length):pf 5 n (i+1) (l.drop (i+1))=if dH l i<ae digit l (dH l i)then ae digit l (dH l i)else n:=by
 unfold dH;by_cases hp:i+1<l.length∧Aa (aq l (i+1))=true
 ·rw[au hp];obtain⟨h1,h2,h3,h4⟩:=Va _ hp.2;rw[eZ hp.1 (b:=6) (by simp[ew,h1,h2,h3,h4,hp.2])];exact YI
 ·rw[af hp];by_cases hl:i+1<l.length
  ·have Zp:Aa (aq l (i+1))=false:=by simpa using fun h=>hp ⟨hl,h⟩
   cases hd:digit (aq l (i+1))
   ·rw[dx hl hd,af (by omega)];refine lZ hl ?_;simp[ew,hd,Zp]
   ·rw[eZ hl (b:=7) (by simp[ew,hd]),au (wQ l (i+1) hl hd)];show pf 7 (i+1+1) (i+1+1) _=_;rw[Cg l _ (i+1+1) rfl,gF hl hd]
  ·rw[rP (by omega),bR (by omega),af (by omega)]
theorem wA (ha:a=1∨a=8∨a=2∨a=4) (hd:i<l.length→digit (aq l i)=false) (hp:i<l.length→(aq l i).toNat=46→a=2∨a=4) (hx:i<l.length→a=8→ux (aq l i)=false):pf a i i (l.drop i)=da l i:=by
 unfold da;by_cases h:i<l.length
 ·have h1:=hd h;have h2:=hp h;have h3:=hx h;cases hE:tF (aq l i)
  ·rw[au (.inr rfl)];refine lZ h ?_;have e2: ¬(a=9∨a=10):=by omega
   unfold ew;rw[af (by rintro⟨x,y⟩;rw[h3 x]at y;cases y),af e2,h1,af (by simp)];split
   ·rename_i Gj;have:=h2 Gj;rw[af (by omega),af (by omega)]
   ·rw[hE,af (by simp)];split
    ·rw[af (by omega)]
    ·rfl
  ·obtain⟨_,e3,e4⟩:=YK _ hE;rw[af (by rintro(x|x)<;>first|omega|cases x)];rw[eZ h (b:=5) (by
    unfold ew;rw[af (by rintro⟨_,y⟩;rw[e4]at y;cases y),af (by omega),h1,af (by simp),af (by rw[e3];exact id),hE,au rfl,au ha])]
   show pf 5 i (i+1) _=_;exact abZ h
 ·rw[au (.inl (by omega)),rP (by omega)]
theorem GR (l:List UInt8): ∀d i,l.length-i=d→pf 4 i i (l.drop i)=da l (ae digit l i)
 |0,i,h=>by rw[bR (by omega)];exact wA (by simp) (by omega) (by omega) (by omega)
 |d+1,i,h=>by
  have hi:i<l.length:=by omega
  cases hx:digit (aq l i)
  ·rw[dx hi hx];exact wA (by simp) (fun _=>hx) (by simp) (by simp)
  ·rw[eZ hi (b:=4) (by simp[ew,hx]),gF hi hx];exact GR l d (i+1) (by omega)
theorem Vb (l:List UInt8) (i:Nat):pf 2 i i (l.drop i)=da l (ae digit l i):=by
 by_cases hi:i<l.length
 ·cases hx:digit (aq l i)
  ·rw[dx hi hx];exact wA (by simp) (fun _=>hx) (by simp) (by simp)
  ·rw[eZ hi (b:=4) (by simp[ew,hx]),gF hi hx];exact GR l _ (i+1) rfl
 ·rw[bR (by omega)];exact wA (by simp) (by omega) (by omega) (by omega)
def jK (l:List UInt8) (k:Nat):Nat:=if k<l.length∧(aq l k).toNat=46 then da l (ae digit l (k+1))else da l k
theorem AP (ha:a=1∨a=8) (hd:i<l.length→digit (aq l i)=false) (hx:i<l.length→a=8→ux (aq l i)=false):pf a i i (l.drop i)=jK l i:=by
 unfold jK;by_cases hp:i<l.length∧(aq l i).toNat=46
 ·rw[au hp];obtain⟨e1,e2,e3⟩:=Pm _ hp.2;rw[eZ hp.1 (b:=2) (by rcases ha with rfl|rfl<;>simp[ew,e1,e3,hp.2])];exact Vb l (i+1)
 ·rw[af hp];exact wA (by omega) hd (fun h1 h2=>absurd ⟨h1,h2⟩ hp) hx
theorem Ch (l:List UInt8): ∀d i,l.length-i=d→pf 1 i i (l.drop i)=jK l (ae digit l i)
 |0,i,h=>by rw[bR (by omega)];exact AP (by simp) (by omega) (by omega)
 |d+1,i,h=>by
  have hi:i<l.length:=by omega
  cases hx:digit (aq l i)
  ·rw[dx hi hx];exact AP (by simp) (fun _=>hx) (by simp)
  ·rw[eZ hi (b:=1) (by simp[ew,hx]),gF hi hx];exact Ch l d (i+1) (by omega)
theorem qn (h:0<ae digit l 0):(if aJ l=0 then 0 else da l (aJ l))=jK l (ae digit l 0):=by
 unfold jK;by_cases hp:ae digit l 0<l.length∧(aq l (ae digit l 0)).toNat=46
 ·have h2:=aX digit l (ae digit l 0+1);have h5:aJ l=ae digit l (ae digit l 0+1):=by rw[aJ,au ⟨hp.1,hp.2,h⟩]
  rw[h5,au hp,af (by omega)]
 ·have h5:aJ l=ae digit l 0:=by rw[aJ,af (by rintro⟨a,b,_⟩;exact hp ⟨a,b⟩),af (by omega)]
  rw[h5,af hp,af (by omega)]
theorem Hk (l:List UInt8):pf 0 0 0 l=ag l:=by
 have hl0:pf 0 0 0 l=pf 0 0 0 (l.drop 0):=rfl;rw[hl0];by_cases h0:0<l.length
 ·cases hd:digit (aq l 0)
  ·have hs:ae digit l 0=0:=dx h0 hd;have hh:aR l=false:=by
    unfold aR;have:((aq l 0).toNat==48)=false:=by
     rw[bN];intro h;have:digit (aq l 0)=true:=by simp[digit,h]
     rw[hd]at this;cases this
    rw[this,tQ,rA,rA]
   rw[ag,hh,af (by simp)];by_cases hp:(aq l 0).toNat=46
   ·obtain⟨e1,e2,e3⟩:=Pm _ hp;rw[eZ h0 (b:=3) (by simp[ew,e1,hp])];show pf 3 0 1 (l.drop 1)=_;by_cases h1:1<l.length
    ·cases zS:digit (aq l 1)
     ·rw[lZ h1 (by unfold ew;simp only[zS];simp;repeat' split<;>simp_all)];have h5:aJ l=0:=by
       rw[aJ,hs,af (by omega),af (by rintro⟨_,_,_,h⟩;rw[zS]at h;cases h)]
      rw[h5,au rfl]
     ·rw[eZ h1 (b:=4) (by simp[ew,zS])];show pf 4 2 2 (l.drop 2)=_;rw[GR l _ 2 rfl];have h5:aJ l=ae digit l 1:=by
       rw[aJ,hs,af (by omega),au ⟨rfl,h1,hp,zS⟩]
      have h6:=wQ l 1 h1 zS;rw[h5,af (by omega),gF h1 zS]
    ·have h5:aJ l=0:=by rw[aJ,hs,af (by omega),af (by omega)]
     rw[rP (by omega),h5,au rfl]
   ·have h5:aJ l=0:=by rw[aJ,hs,af (by omega),af (by rintro⟨_,_,h,_⟩;exact hp h)]
    rw[h5,au rfl];refine lZ h0 ?_;unfold ew;rw[af (by omega),af (by omega),hd,af (by simp),af hp];split
    ·rw[af (by omega)]
    ·split
     ·rw[af (by omega)]
     ·rfl
  ·have qK:=wQ l 0 h0 hd;have hsy:=gF h0 hd;by_cases hz:(aq l 0).toNat=48
   ·rw[eZ h0 (b:=8) (by simp[ew,hd,hz])];show pf 8 1 1 (l.drop 1)=_;by_cases hX:1<l.length∧ux (aq l 1)=true
    ·obtain⟨x1,x2,x3⟩:=YL _ hX.2;rw[eZ hX.1 (b:=9) (by simp[ew,hX.2])];show pf 9 1 2 (l.drop 2)=_;have vq:ae digit l 0=1:=by rw[hsy,dx hX.1 x1]
     by_cases hh:aR l=true
     ·have Wo:=hh;simp[aR]at Wo;rw[ag,au hh,eZ Wo.1.1.1 (b:=10) (by simp[ew,Wo.2])];show pf 10 3 3 (l.drop 3)=_;rw[T9 l _ 3 rfl,gF Wo.1.1.1 Wo.2]
     ·rw[ag,af hh,qn (by omega),vq];have hn:pf 9 1 2 (l.drop 2)=1:=by
       by_cases h2:2<l.length
       ·refine lZ h2 ?_;have mx:gX (aq l 2)=false:=by
         rw[←yP];intro h;exact hh (by simp[aR,h2,hz,hX.2,h])
        simp[ew,mx]
       ·exact rP (by omega)
      rw[hn,jK,af (by rw[x2];simp),da,au (.inr x3)]
    ·have hh: ¬aR l=true:=by
      intro h;simp[aR]at h;exact hX ⟨by omega,h.1.2⟩
     rw[ag,af hh,qn qK,hsy];by_cases h1:1<l.length
     ·have hX':ux (aq l 1)=false:=by simpa using fun h=>hX ⟨h1,h⟩
      cases zS:digit (aq l 1)
      ·show pf 8 1 1 (l.drop 1)=jK l (ae digit l 1);rw[dx h1 zS];exact AP (by simp) (fun _=>zS) (fun _ _=>hX')
      ·rw[eZ h1 (b:=1) (by simp[ew,zS,hX'])];show pf 1 2 2 (l.drop 2)=jK l (ae digit l 1);rw[Ch l _ 2 rfl,gF h1 zS]
     ·show pf 8 1 1 (l.drop 1)=jK l (ae digit l 1);rw[bR (by omega)];exact AP (by simp) (by omega) (by omega)
   ·have hh: ¬aR l=true:=by
     intro h;simp[aR]at h;exact hz h.1.1.2
    rw[ag,af hh,qn qK,hsy,eZ h0 (b:=1) (by simp[ew,hd,hz])];exact Ch l _ 1 rfl
 ·have:l=[]:=pv.1 (by omega);subst this;rfl
theorem FA (c:UInt8) (w:World):
  Calls prog 138 #[.int .u8 (c.toNat:Int)] w fun e w'=>e= .returned (.bool (digit c))∧w=w':=by
 go_enter func138,ntmps138;go_wp2
 all_goals (go_ret;exact⟨ah (by rw[eH];simp[digit];omega),rfl⟩)
def Gk (c:UInt8):Int:=if gX c then(mB c:Int)else-1
theorem mM (c:UInt8):(digit c=true→Gk c=(c.toNat:Int)-48)∧(97≤c.toNat→c.toNat≤102→Gk c=(c.toNat:Int)-87)∧(65≤c.toNat→c.toNat≤70→Gk c=(c.toNat:Int)-55)∧(gX c=false→Gk c= -1)∧(gX c=true→0≤Gk c∧Gk c≤15∧Gk c=(mB c:Int)):=by
 revert c;exact iA (by decide+kernel)
theorem YM {c:UInt8} (hd:digit c=false) (h1: ¬(97≤c.toNat∧c.toNat≤102)) (h2: ¬(65≤c.toNat∧c.toNat≤70)):gX c=false:=by
 unfold gX;rw[hd,Bool.false_or,Bool.or_eq_false_iff];constructor
 ·rw[←yP,kN,uF,uF];exact h1
 ·rw[←yP,kN,uF,uF];exact h2
theorem Pn (c:UInt8) (w:World):
  Calls prog 137 #[.int .u8 (c.toNat:Int)] w fun e w'=>e= .returned (.int .i64 (Gk c))∧w=w':=by
 go_enter func137,ntmps137;cases hd:digit c
 all_goals
  go_wp2_with fail;refine(FA _ _).mono ?_;rintro e w' ⟨rfl,rfl⟩;rw[hd];go_wp2_with fail
 all_goals
  go_ret;refine⟨aH ?_,rfl⟩
  first
   |(rw[(mM c).1 hd];have:=aI hd;omega)
   |(rw[(mM c).2.1 (by omega) (by omega)];omega)
   |(rw[(mM c).2.2.1 (by omega) (by omega)];omega)
   |(rw[(mM c).2.2.2.1 (YM hd (by omega) (by omega))])
def wi (a:Nat) (c:UInt8):Int:=
 if a=8∧ux c=true then 9
 else if a=9∨a=10 then(if gX c=true then 10 else-1)
 else if digit c=true then(if a=0 then(if c.toNat=48 then 8 else 1)else if a=1∨a=8 then 1 else if a=2∨a=3∨a=4 then 4 else 7)
 else if c.toNat=46 then(if a=0 then 3 else if a=1∨a=8 then 2 else-1)
 else if tF c=true then(if a=1∨a=8∨a=2∨a=4 then 5 else-1)
 else if Aa c=true then(if a=5 then 6 else-1)
 else-1
theorem J2 (a:Nat) (ha:a≤10) (c:UInt8) (w:World):
  Calls prog 123 #[.int .i64 (a:Int),.int .u8 (c.toNat:Int)] w fun e w'=>e= .returned (.int .i64 (wi a c))∧w=w':=by
 have ac0:a=0∨a=1∨a=2∨a=3∨a=4∨a=5∨a=6∨a=7∨a=8∨a=9∨a=10:=by omega
 have hV:wi a c=wi a c:=rfl;generalize hv:wi a c=V at hV;clear hV;rcases ac0 with rfl|rfl|rfl|rfl|rfl|rfl|rfl|rfl|rfl|rfl|rfl
 all_goals
  clear ha;have hv':=aa hv;clear hv;go_enter func123,ntmps123;cases hd:digit c
  all_goals
   cases hx:gX c
   all_goals
    have hi:=(mM c).2.2.2;simp only[hx,lE,reduceCtorEq,true_implies,false_implies,kS,vZ]at hi;go_wp2_with (first|(go_at_call 138;refine(FA _ _).mono ?_;rintro e w' ⟨rfl,rfl⟩;rw[hd])|(go_at_call 137;refine(Pn _ _).mono ?_;rintro e w' ⟨rfl,rfl⟩))
 all_goals
  go_ret;refine⟨aH ?_,rfl⟩;rw[←hv'.out];simp only[wi,ux,tF,Aa,hd,hx,tP,cC,Nat.reduceEqDiff,false_and,and_false,vZ,kS,or_true,true_or,iP,false_or,kT,iG,lE,or_self,reduceCtorEq]
  first
   |done
   |rfl
   |(repeat' split)<;>first|rfl|omega|(simp only[cC,bN,ne_eq]at*;omega)|(have:=aI hd;simp only[cC,bN,ne_eq]at*;omega)
theorem Rg (a:Nat) (w:World):
  Calls prog 124 #[.int .i64 (a:Int)] w fun e w'=>e= .returned (.bool (BH a))∧w=w':=by
 go_enter func124,ntmps124;go_wp2
 all_goals (go_ret;exact⟨ah (by rw[eH];simp[BH];try omega),rfl⟩)
theorem YN (a:Nat) (c:UInt8):wi a c=(match ew a c with|none=> -1|some b=>(b:Int)):=by
 unfold wi ew
 repeat' split
 all_goals first|rfl|(simp_all;done)|(simp_all<;>omega)
theorem Vc {c:UInt8} (h:ew a c=some b):b≤10:=by
 unfold ew at h
 repeat' split at h
 all_goals first|(injection h with h;omega)|cases h
theorem uW (s:ByteArray) (w:World) (hs:s.size≤281474976710656):
  Calls prog 111 #[.string s] w fun e w'=>e= .returned (.int .i64 (ag s.data.toList:Nat))∧w=w':=by
 go_enter func111,ntmps111;go_wp2_with fail;go_loop [3,4,5] (fun t3 t4 t5=> ∃a n i:Nat,a≤10∧i≤s.size∧t3= .int .i64 (a:Int)∧t4= .int .i64 (n:Int)∧t5= .int .i64 (i:Int)∧Hid (pf a n i (s.data.toList.drop i)=ag s.data.toList)) (fun _ _ t5=>s.size-(intOf t5).toNat)
 case atStart=>exact⟨0,0,0,by omega,by omega,rfl,rfl,rfl,aa (Hk _)⟩
 case round=>
  obtain⟨a,n,i,ha,hi,rfl,rfl,rfl,gV⟩:=hrel;by_cases ax:i<s.size
  ·have cL:=aa (ar ax);have hN:=aa (YN a s[i]);cases dz:ew a s[i]with
   |none=>
    have hv:wi a s[i]= -1:=by rw[hN.out,dz]
    have ajS:=aa dz;clear dz;go_wp2_with (go_at_call 123;refine(J2 a ha _ _).mono ?_;rintro e w' ⟨rfl,rfl⟩;rw[hv]);go_ret;exact⟨aH (by rw[←gV.out,lZ (by rw[ab];exact ax) (by rw[cL.out];exact ajS.out)]),rfl⟩
   |some b=>
    have hv:wi a s[i]=(b:Int):=by rw[hN.out,dz]
    have hb:=Vc dz;have hpf:=aa (eZ (l:=s.data.toList) (i:=i) (n:=n) (by rw[ab];exact ax) (by rw[cL.out];exact dz));clear dz;cases hw:BH b
    all_goals
     go_wp2_with (first|(go_at_call 123;refine(J2 a ha _ _).mono ?_;rintro e w' ⟨rfl,rfl⟩;rw[hv])|(go_at_call 124;refine(Rg _ _).mono ?_;rintro e w' ⟨rfl,rfl⟩;rw[hw]))
    ·exact⟨⟨b,n,i+1,hb,ax,rfl,rfl,by go_num,aa (by have h:=hpf.out;rw[hw,af (by simp)]at h;rw[←h,gV.out])⟩,gN ax⟩
    ·exact⟨⟨b,i+1,i+1,hb,ax,rfl,by go_num,by go_num,aa (by have h:=hpf.out;rw[hw,au rfl]at h;rw[←h,gV.out])⟩,gN ax⟩
  ·have aaT:=aa (rP (l:=s.data.toList) (a:=a) (n:=n) (i:=i) (by rw[ab];omega));go_wp2_with fail;go_ret;exact⟨aH (by rw[←gV.out,aaT.out]),rfl⟩
def okW (c d:UInt8):Bool:=c.toNat==d.toNat||c.toNat+32==d.toNat
theorem J3 (s t:ByteArray) (w:World) (ht:t.size=3) (po: ∀(i:Nat) (h:i<t.size),97≤t[i].toNat) (V:Bool) (hV:V=true↔s.size=3∧ ∀(i:Nat) (h:i<s.size) (h2:i<t.size),okW s[i] t[i]=true):
  Calls prog 126 #[.string s,.string t] w fun e w'=>e= .returned (.bool V)∧ ∃d,w'=w.drewN d:=by
 have HV:=aa hV;have HS:=aa po;clear hV po;by_cases h3:s.size=3
 ·go_enter func126,ntmps126;go_wp2_with fail;go_loopw [5] (fun t5 wr=> ∃k n:Nat,k≤3∧wr=w.drewN n∧t5= .int .i64 (k:Int)∧Hid (∀(i:Nat) (h:i<s.size) (h2:i<t.size),i<k→okW s[i] t[i]=true)) (fun t5 _=>3-(intOf t5).toNat)
  case atStart=>exact⟨0,0,by omega,rfl,rfl,aa (fun _ _ _ h=>by omega)⟩
  case round=>
   obtain⟨k,n,hk,rfl,rfl,Xt⟩:=hrel;by_cases ax:k<3
   ·have om:k<s.size:=by omega
    have hkt:k<t.size:=by omega
    have mg:=HS.out k hkt;have Xf:t[k].toNat<256:=uG _;obtain⟨c,hc⟩: ∃c:Nat,c=s[k].toNat:=⟨_,rfl⟩;obtain⟨d,hd⟩: ∃d:Nat,d=t[k].toNat:=⟨_,rfl⟩;have q1:(t[k].toNat-32:Int)%256=(t[k].toNat-32:Int):=by omega
    cases ho:okW s[k] t[k]
    ·have PV: ¬s[k].toNat=t[k].toNat∧ ¬s[k].toNat+32=t[k].toNat:=by simpa [okW]using ho
     have p1:((s[k].toNat:Int) != (t[k].toNat:Int))=true:=by simp;omega
     have p2:((s[k].toNat:Int) != ((t[k].toNat:Int)-32))=true:=by simp;omega
     go_wp2_with fail;go_quiet (fail);go_wp2_with fail;go_ret;exact⟨ah (by rw[eq_comm,←yP];exact fun h=>by have h4:=(HV.out.1 h).2 k om hkt;rw[ho]at h4;cases h4),_,jV _ _ _⟩
    ·have PV:s[k].toNat=t[k].toNat∨s[k].toNat+32=t[k].toNat:=by simpa [okW]using ho
     by_cases he:s[k].toNat=t[k].toNat
     ·have p1:((s[k].toNat:Int) != (t[k].toNat:Int))=false:=by simp;omega
      go_wp2_with fail;go_quiet (fail);go_wp2_with fail;exact⟨⟨k+1,_,ax,rfl,by go_num,aa (fun i h h2 hi=>by
       rcases dF i k with h4|h4
       ·exact Xt.out i h h2 h4
       ·have h5:i=k:=by omega
        subst h5;exact ho)⟩,gN ax⟩
     ·have p1:((s[k].toNat:Int) != (t[k].toNat:Int))=true:=by simp;omega
      have p2:((s[k].toNat:Int) != ((t[k].toNat:Int)-32))=false:=by simp;omega
      go_wp2_with fail;go_quiet (fail);go_wp2_with fail;exact⟨⟨k+1,_,ax,rfl,by go_num,aa (fun i h h2 hi=>by
       rcases dF i k with h4|h4
       ·exact Xt.out i h h2 h4
       ·have h5:i=k:=by omega
        subst h5;exact ho)⟩,gN ax⟩
   ·have h3':k=3:=by omega
    subst h3';go_wp2_with fail;go_ret;exact⟨ah (Eq.symm (HV.out.2 ⟨h3,fun i h h2=>Xt.out i h h2 (by omega)⟩)),_,rfl⟩
 ·go_enter func126,ntmps126;go_wp2_with fail;go_ret;exact⟨ah (by rw[eq_comm,←yP];exact fun h=>h3 (HV.out.1 h).1),0,rfl⟩
theorem ajT: ∀c:UInt8,∀d:Fin 256,97≤d.val→d.val≤122→(okW c (UInt8.ofNat d.val)=true↔(c.toNat|||32)=d.val):=by
 intro c;revert c;exact iA (by decide+kernel)
theorem Po (s:ByteArray) (a b c:UInt8) (ha:97≤a.toNat∧a.toNat≤122) (hb:97≤b.toNat∧b.toNat≤122) (hc:97≤c.toNat∧c.toNat≤122):
  dE s.data.toList a.toNat b.toNat c.toNat=true↔s.size=3∧ ∀(i:Nat) (h:i<s.size) (h2:i<(ByteArray.mk #[a,b,c]).size),okW s[i] (ByteArray.mk #[a,b,c])[i]=true:=by
 have key: ∀x y:UInt8,97≤y.toNat→y.toNat≤122→(okW x y=true↔(x.toNat|||32)=y.toNat):=fun x y h1 h2=>by
  have:=ajT x ⟨y.toNat,uG y⟩ h1 h2;simpa using this
 unfold dE;rw[ab];by_cases h3:s.size=3
 ·rw[ar (by omega),ar (by omega),ar (by omega)];simp only[h3,beq_self_eq_true,mC,kN,cC,vZ];constructor
  ·rintro⟨⟨h4,h5⟩,h6⟩ i h h2;have hi:i=0∨i=1∨i=2:=by omega
   rcases hi with rfl|rfl|rfl
   ·exact(key _ a ha.1 ha.2).2 h4
   ·exact(key _ b hb.1 hb.2).2 h5
   ·exact(key _ c hc.1 hc.2).2 h6
  ·intro h;exact⟨⟨(key _ a ha.1 ha.2).1 (h 0 (by omega) (by show 0<3;decide)),(key _ b hb.1 hb.2).1 (h 1 (by omega) (by show 1<3;decide))⟩,(key _ c hc.1 hc.2).1 (h 2 (by omega) (by show 2<3;decide))⟩
 ·have:(s.size==3)=false:=by simpa using h3
  rw[this];simp[h3]
theorem GS {l:List UInt8} {m:Nat} (h:lH l m): ∀k,k≤m→(dG l k).n<10^k
 |0,_=>by show (0:Nat)<1;decide
 |k+1,hk=>by
  have ih:=GS h k (by omega);have hl:=h.1;rw[nK (by omega),et];unfold jZ;split
  ·show (dG l k).n<_;omega
  ·rename_i hn;have hd:=aI ((h.2 k (by omega)).resolve_right fun h=>hn h.1);show (dG l k).n*10+_<_;omega
def tooBig (l:List UInt8):Prop:=if aR l=true then pj≤lg l l.length else ia (dG l (bO l)).n (gm l-((dG l (bO l)).behind:Int))
theorem Vd (h0:ag l=l.length) (bZ:l≠[]) (hl:l.length≤512):vI l=true↔tooBig l:=by
 have pE:0<l.length:=Ez.2 bZ;unfold vI tooBig j0;cases hh:aR l
 ·rw[af (show ¬(false=true)by simp)];obtain⟨hm,⟨i0,tE,_⟩,he⟩:=mu h0 bZ hh;have hX:ux (aq l 1)=false:=by
   rcases dF 1 l.length with h1|h1
   ·exact(AL h0 bZ hh h1).1
   ·have:aq l 1=0:=by rw[aq,lA,Ew h1];rfl
    rw[this];decide
  cases hs:ic l
  ·simp only[Bool.not_false,mC,lE,iG,hX];have hml:=hm.1;refine Rc hm (by omega) ?_;unfold gm;split
   ·rename_i ax;have hx:Jk l (bO l) (pJ l) (xK l):=by
     rcases he with he|he
     ·omega
     ·exact he.2
    have:=Gp l.length (ju hx.some) (aS _) hx.fk;split<;>omega
   ·omega
  ·simp only[Bool.not_true,rA,lE,false_iff];unfold ic at hs;simp only[kN,uF]at hs;obtain⟨qK,vq⟩:=hs;have Zo:bO l=l.length:=by
    rcases he with he|⟨h1,he⟩
    ·exact he
    ·exfalso;have hE:=he.tF;have:=rq.1 vq l[bO l] (jz h1);have ha:l[bO l]=aq l (bO l):=by rw[aq,lA,eG h1];rfl
     rw[ha]at this;have hf:=qd (c:=aq l (bO l)) (by simpa using this);rw[hf]at hE;cases hE
   have hn:=GS hm (bO l) (aS _);have hv:gm l=0:=by unfold gm;rw[af (by omega)]
   rw[hv];exact oN (a:=bO l) (ju hn) (by omega)
 ·rw[au (show true=true from rfl)];obtain⟨h2,h3,h4,h5⟩:=sX h0 hh;have hs:ic l=false:=by
   unfold ic;have:oW l=false:=by
    unfold oW;rw[EC];refine⟨l[1],jz (by omega),?_⟩;have ha:l[1]'(by omega)=aq l 1:=by rw[aq,lA,eG (by omega)];rfl
    rw[ha];have fO: ∀c:UInt8,ux c=true→ ¬(digit c||c.toNat==46)=true:=iA (by decide+kernel);exact fO _ h4
   rw[this,tQ]
  simp only[hs,Bool.not_false,mC,lE,iG,h4,kT];exact Rf h5 h2
structure xP (w wr:World) (v:Value) (i N:Nat) (es:List Nat):Prop where
 r:pN wr v es
 ok:eu es
 norm:Norm es
 val:aC es=N
 len:es.length≤i
 below:Below w.heap.size w wr
theorem xP.nil (w:World):xP w w (.slice none 0 0) 0 0 []:=
 ⟨⟨none,0,rfl,fun j h=>by simp at h⟩,(fun d h=>by cases h),(fun h=>by simp at h),rfl,aS _,aV _ _⟩
theorem Ve (cJ:eu es) (hl:es.length≤i) (hm:m<4294967296) (hc:c<4294967296):aC es*m+c<4294967296^(i+1):=by
 have h1:=qb es cJ;have h2:4294967296^es.length≤4294967296^i:=ek (by decide) hl;rw[et];generalize 4294967296^i=B at*
 have h3:aC es*m≤(B-1)*4294967295:=oA (by omega) (by omega);have h4:(B-1)*4294967295=B*4294967295-4294967295:=by rw[Nat.sub_mul,Bp]
 omega
theorem xP.times (h:xP w wr v i N es) (hm:m<4294967296) (hc:c<4294967296) (hM:M=N*m+c) {e:Ending} (hp:iy wr (aC es*m+c) e w2):
  ∃v2 fs,e= .returned v2∧xP w w2 v2 (i+1) M fs:=by
 obtain⟨⟨v2,fs,rfl,f1,f2,f3,f4⟩,hb⟩:=hp;refine⟨v2,fs,rfl,f1.r,f4,f3,by rw[f2,h.val,hM],mL f3 ?_,h.below.trans (hb.mono h.below.size)⟩;rw[f2];exact Ve h.ok h.len hm hc
theorem xP.more (h:xP w wr v i N es) (hj:i≤j):xP w wr v j N es:=⟨h.r,h.ok,h.norm,h.val,bP h.len hj,h.below⟩
def wR (w:World) (n N:Nat) (X:Int) (e:Ending) (w':World):Prop:=
 ∃v es,e= .returned (.tuple #[v,.int .i64 X])∧xP w w' v n N es
theorem Dq (s:ByteArray) (w:World) (hs:s.size≤512) (h2:1<s.size) (hX:ux s[1]=true) (hd: ∀(i:Nat) (h:i<s.size),2≤i→gX s[i]=true):
  Calls prog 128 #[.string s] w (wR w s.size (lg s.data.toList s.size) 0):=by
 have HD:=aa hd;have HX0:=aa (Fy s.data.toList);have hx:s[1].toNat=120∨s[1].toNat=88:=by simpa [ux]using hX
 clear hd hX;have hI0:=aa (xP.nil w);rcases hx with hx|hx
 all_goals
  have p1:((s[1].toNat:Int)==120)=decide (s[1].toNat=120):=by rw[eH];simp;omega
  have p2:((s[1].toNat:Int)==88)=decide (s[1].toNat=88):=by rw[eH];simp;omega
  simp only[hx,Nat.reduceEqDiff,decide_true,decide_false]at p1 p2;go_enter func128,ntmps128;go_wp2_with fail;go_loopw [4,5] (fun t4 t5 wr=> ∃(i:Nat) (es:List Nat),i≤s.size∧2≤i∧t5= .int .i64 (i:Int)∧Hid (xP w wr t4 i (lg s.data.toList i) es)) (fun _ t5 _=>s.size-(intOf t5).toNat)
  case atStart=>exact⟨2,[],by omega,by omega,rfl,aa (by rw[HX0.out];exact hI0.more (by omega))⟩
  case round=>
   obtain⟨i,es,hi,xv,rfl,hI⟩:=hrel;by_cases ax:i<s.size
   ·have hh:=HD i ax xv;obtain⟨x,hx'⟩: ∃x,x=mB s[i]:=⟨_,rfl⟩;have hv:=(mM s[i]).2.2.2.2 hh;rw[hv.2.2,←hx']at hv;have bx:x≤15:=by omega
    have hv':Gk s[i]=(x:Int):=by rw[(mM s[i]).2.2.2.2 hh |>.2.2,hx']
    have HK:=aa (show lg s.data.toList (i+1)=lg s.data.toList i*16+x by rw[CR xv (by rw[ab];exact ax),ar ax,hx']);have q1:IntKind.u32.wrap (x:Int)=(x:Int):=by rw[rr];omega
    have ht:=aa (td wr _ es 16 x hI.r hI.ok (by have:=hI.len;omega) (by decide) (by omega));clear hv hx' hh;go_wp2_with (go_at_call 137;refine(Pn _ _).mono ?_;rintro e w' ⟨rfl,rfl⟩;rw[hv']);have SK:Calls prog 139 #[_,.int .u32 16,.int .u32 (x:Int)] wr (iy wr (aC es*16+x)):=ht;refine SK.mono ?_;intro e w2 hp;obtain⟨v2,fs,rfl,hN⟩:=hI.times (by decide) (by omega) HK hp;have HN:=aa hN;clear hp hN ht SK;go_wp2_with fail;exact⟨⟨i+1,fs,ax,by omega,by go_num,HN⟩,gN ax⟩
   ·have he:i=s.size:=by omega
    go_wp2_with fail;subst he;go_ret2;exact⟨_,es,rfl,hI⟩
def ON (e:Nat) (c:UInt8):Nat:=if e<100000 then e*10+(c.toNat-48)else e
def LA (l:List UInt8) (j k:Nat):Nat:=((l.drop j).take (k-j)).foldl ON 0
theorem tf (l:List UInt8) (j:Nat):LA l j j=0:=by simp[LA]
theorem J4 (hj:j≤k) (h:k<l.length):LA l j (k+1)=ON (LA l j k) (aq l k):=by
 have hk:k-j<(l.drop j).length:=by simp;omega
 have:(l.drop j)[k-j]=aq l k:=by
  rw[vR,aq,lA,eG (by omega)];simp[show j+(k-j)=k by omega]
 rw[LA,show k+1-j=k-j+1 by omega,jy hk,yL,this];rfl
theorem YO: ∀k,j≤k→k≤l.length→(∀i,j≤i→i<k→digit (aq l i)=true)→(LA l j k=zR l j k∨(10000≤LA l j k∧10000≤zR l j k))∧LA l j k≤1000009:=by
 intro k hj;induction k with
 |zero=>
  intro _ _;have:j=0:=by omega
  subst this;simp[tf,oV]
 |succ k ih=>
  intro hk hd;by_cases he:j=k+1
  ·subst he;simp[tf,oV]
  ·obtain⟨h1,h2⟩:=ih (by omega) (by omega) (fun i a b=>hd i a (by omega));have hf:=aI (hd k (by omega) (by omega));rw[J4 (by omega) (by omega),wL (by omega) (by omega)];unfold ON mG;constructor
   ·split<;>split<;>omega
   ·split<;>omega
def rX (l:List UInt8):Int:=(if bO l<l.length then(if xK l=true then-(LA l (pJ l) l.length:Int)else(LA l (pJ l) l.length:Int))else 0)-((dG l (bO l)).behind:Int)
theorem tg {l:List UInt8}: ∀k,k≤l.length→(dG l k).behind≤k
 |0,_=>aS _
 |k+1,hk=>by
  have ih:=tg (l:=l) k (by omega);rw[nK (by omega)];unfold jZ;split
  ·show (dG l k).behind≤k+1;omega
  ·simp only;split<;>omega
theorem Dr (s:ByteArray) (w:World) (hs:s.size≤512) (hX: ∀h:1<s.size,ux s[1]=false) (m:Nat) (hm:bO s.data.toList=m) (cJ:lH s.data.toList m) (hE:m=s.size∨m<s.size∧Jk s.data.toList m (pJ s.data.toList) (xK s.data.toList)):
  Calls prog 128 #[.string s] w (wR w s.size (dG s.data.toList m).n (rX s.data.toList)):=by
 have re:m≤s.size:=by have:=cJ.1;rwa [ab]at this
 have FW:=aa cJ;have HE:=aa hE;have HM:=aa hm;have hI0:=aa (xP.nil w);have aeN:dG s.data.toList 0=⟨0,0,false⟩:=rfl;have lD:=aa aeN;have HMN:Hid (∀(i:Nat) (h:i<s.size),i<m→tF s[i]=false):=aa (fun i h hi=>by
  rcases cJ.2 i hi with h1|h1
  ·rw[←ar h];exact qd (.inl h1)
  ·rw[←ar h];exact qd (.inr h1.1))
 have hx: ¬1<s.size∨ ∃h:1<s.size,((s[1].toNat:Int)==120)=false∧((s[1].toNat:Int)==88)=false:=by
  by_cases h1:1<s.size
  ·refine .inr ⟨h1,?_⟩;have:=hX h1;simp[ux]at this;constructor<;>simp<;>omega
  ·exact .inl h1
 clear cJ hE hm hX aeN;rcases hx with h1|⟨h1,p1,p2⟩
 all_goals
  go_enter func128,ntmps128;go_wp2_with fail;go_loopw [4,6,7,8] (fun t4 t6 t7 t8 wr=> ∃(i:Nat) (es:List Nat),i≤m∧t6= .int .i64 (i:Int)∧Hid (xP w wr t4 i (dG s.data.toList i).n es)∧t7= .int .i64 ((dG s.data.toList i).behind:Int)∧t8= .bool (dG s.data.toList i).Bu) (fun _ t6 _ _ _=>s.size-(intOf t6).toNat)
  case atStart=>exact⟨0,[],dQ _,rfl,by rw[lD.out];exact hI0,by rw[lD.out];rfl,by rw[lD.out]⟩
  case round=>
   obtain⟨i,es,hi,rfl,hI,rfl,rfl⟩:=hrel;by_cases ax:i<m
   ·have lr:i<s.size:=by omega
    have bZ:=HMN.out i lr ax;have ajU: ¬s[i].toNat=101∧ ¬s[i].toNat=69:=by simpa [tF]using bZ
    have e1:((s[i].toNat:Int) != 101)=true:=by simp;omega
    have e2:((s[i].toNat:Int) != 69)=true:=by simp;omega
    have xw:=aa (show dG s.data.toList (i+1)=jZ (dG s.data.toList i) s[i]by rw[nK (by rw[ab];exact lr),ar lr]);have HC:=aa (show digit s[i]=true∨s[i].toNat=46 by
     rcases FW.out.2 i ax with h|h
     ·rw[ar lr]at h;exact .inl h
     ·rw[ar lr]at h;exact .inr h.1)
    clear bZ ajU;by_cases Gj:s[i].toNat=46
    ·have e3:((s[i].toNat:Int)==46)=true:=by simp;omega
     have Gl:Hid (dG s.data.toList (i+1)=⟨(dG s.data.toList i).n,(dG s.data.toList i).behind,true⟩):=aa (by rw[xw.out,jZ,au Gj]);clear xw;clear Gj;go_wp2_with fail;exact⟨⟨i+1,es,ax,by go_num,aa (by rw[Gl.out];exact hI.out.more (by omega)),by rw[Gl.out],by rw[Gl.out]⟩,gN lr⟩
    ·have e3:((s[i].toNat:Int)==46)=false:=by simp;omega
     have qI:=aI (HC.out.resolve_right Gj);obtain⟨x,hx⟩: ∃x,x=s[i].toNat-48:=⟨_,rfl⟩;have q1:((s[i].toNat:Int)-48)%256=(x:Int):=by omega
     have q2:IntKind.u32.wrap (x:Int)=(x:Int):=by rw[rr];omega
     have bx:x≤9:=by omega
     have Gl:Hid (dG s.data.toList (i+1)=⟨(dG s.data.toList i).n*10+x,if (dG s.data.toList i).Bu=true then(dG s.data.toList i).behind+1 else(dG s.data.toList i).behind,(dG s.data.toList i).Bu⟩):=aa (by rw[xw.out,jZ,af Gj,hx]);have ht:=aa (td wr _ es 10 x hI.out.r hI.out.ok (by have:=hI.out.len;omega) (by decide) (by omega));have HBH:=aa (tg (l:=s.data.toList) i (by rw[ab];omega));clear xw qI hx;clear Gj;obtain⟨S,hS⟩: ∃S,S=dG s.data.toList i:=⟨_,rfl⟩;rw[←hS]at Gl hI HBH;rw[←hS];clear hS;have bB:S.behind≤i:=HBH.out;cases hpt:S.Bu
     all_goals
      rw[hpt]at Gl;go_wp2_with fail;have SK:Calls prog 139 #[_,.int .u32 10,.int .u32 (x:Int)] wr (iy wr (aC es*10+x)):=ht.out;refine SK.mono ?_;intro e w2 hp;obtain⟨v2,fs,rfl,hN⟩:=hI.out.times (by decide) (by omega) rfl hp;have HN:=aa hN;clear hp hN ht SK;go_wp2_with fail
     all_goals exact⟨⟨i+1,fs,ax,by go_num,aa (by rw[Gl.out];exact HN.out),by rw[Gl.out];rfl,by rw[Gl.out]⟩,gN lr⟩
   ·have he:i=m:=by omega
    subst he;clear hi ax;have HBH:=aa (tg (l:=s.data.toList) i (by rw[ab];omega));obtain⟨S,hS⟩: ∃S,S=dG s.data.toList i:=⟨_,rfl⟩;have HRX:=aa (show rX s.data.toList=(if i<s.size then(if xK s.data.toList=true then-(LA s.data.toList (pJ s.data.toList) s.size:Int)else(LA s.data.toList (pJ s.data.toList) s.size:Int))else 0)-(S.behind:Int)by
     rw[rX,HM.out,ab,hS])
    have HSN:=aa (cz SM.n hS.symm);rw[←hS]at hI HBH;rw[←hS];clear hS;have bB:S.behind≤i:=HBH.out;by_cases Zo:i<s.size
    ·have hE:=HE.out.resolve_left (by omega);have hEx:=hE.2;have hXE:((s[i].toNat:Int)=101)∨((s[i].toNat:Int)=69):=by
      have:=hEx.tF;rw[ar Zo]at this;simp[tF]at this;omega
     have hEX:=aa hEx;clear hE hEx;rcases hXE with hXE|hXE
     all_goals
      have e1:((s[i].toNat:Int) != 101)=decide ((s[i].toNat:Int)≠101):=by rw[eH];simp
      have e2:((s[i].toNat:Int) != 69)=decide ((s[i].toNat:Int)≠69):=by rw[eH];simp
      rw[hXE]at e1 e2;go_wp2_with fail;obtain⟨j,hj⟩: ∃j,j=pJ s.data.toList:=⟨_,rfl⟩;obtain⟨sg,Xv⟩: ∃b,b=xK s.data.toList:=⟨_,rfl⟩;rw[←hj,←Xv]at hEX HRX;clear hj Xv;have hjs:j<s.size:=by have:=hEX.out.some;rwa [ab]at this
      have Xs:i+1≤j:=by rcases hEX.out.sign with h|h|h<;>omega
      go_loop [6,9,10] (fun t6 t9 t10=> ∃(k p:Nat) (mi:Bool),k≤s.size∧p≤1000009∧t6= .int .i64 (k:Int)∧t9= .int .i64 (p:Int)∧t10= .bool mi∧Hid ((k=i+1∧k<j∧p=0∧mi=false)∨(j≤k∧p=LA s.data.toList j k∧mi=sg))) (fun t6 _ _=>s.size-(intOf t6).toNat)
      case atStart=>
       refine⟨i+1,0,false,Zo,by omega,by go_num,rfl,rfl,aa ?_⟩;by_cases h:i+1<j
       ·exact .inl ⟨rfl,h,rfl,rfl⟩
       ·have he:j=i+1:=by omega
        refine .inr ⟨by omega,by rw[he,tf],?_⟩;rcases hEX.out.sign with h|h|h
        ·exact h.2.1.symm
        ·omega
        ·omega
      case round=>
       obtain⟨k,p,mi,hk,hp,rfl,rfl,rfl,hR⟩:=hrel;by_cases om:k<s.size
       ·rcases hR.out with⟨mU,zU,rfl,rfl⟩|⟨mU,zU,rfl⟩
        ·have ajV:(s[k].toNat=43∧sg=false)∨(s[k].toNat=45∧sg=true):=by
          subst mU;rcases hEX.out.sign with h|h|h
          ·omega
          ·rw[ar om]at h;exact .inl ⟨h.2.2,h.2.1⟩
          ·rw[ar om]at h;exact .inr ⟨h.2.2,h.2.1⟩
         have hj2:j=k+1:=by
          rcases hEX.out.sign with h|h|h<;>omega
         have DC:Hid (LA s.data.toList j (k+1)=0):=aa (by rw[hj2,tf]);have HJ2:=aa hj2;clear hj2 mU zU hR;rcases ajV with⟨hc,vq⟩|⟨hc,vq⟩
         all_goals
          have f1:((s[k].toNat:Int)==45)=decide ((s[k].toNat:Int)=45):=by rw[eH];simp
          have f2:((s[k].toNat:Int) != 43)=decide ((s[k].toNat:Int)≠43):=by rw[eH];simp
          rw[hc]at f1 f2;have qJ:=aa vq;clear vq;go_wp2_with fail;exact⟨⟨k+1,0,sg,om,by omega,by go_num,rfl,by rw[qJ.out],aa (.inr ⟨by have:=HJ2.out;omega,DC.out.symm,rfl⟩)⟩,gN om⟩
        ·have qI:=hEX.out.fk k mU (by rw[ab];exact om);rw[ar om]at qI;have F2:=aI qI;obtain⟨x,hx⟩: ∃x,x=s[k].toNat-48:=⟨_,rfl⟩;have f1:((s[k].toNat:Int)==45)=false:=by simp;omega
         have f2:((s[k].toNat:Int) != 43)=true:=by simp;omega
         have f3:((s[k].toNat:Int)-48)%256=(x:Int):=by omega
         have bx:x≤9:=by omega
         have DC:Hid (LA s.data.toList j (k+1)=if p<100000 then p*10+x else p):=aa (by rw[J4 mU (by rw[ab];exact om),←zU,ar om,ON,hx]);have ZD:=aa mU;clear mU zU qI F2 hx;by_cases iI:p<100000
         ·have f4:((p:Int)<100000)=True:=aA (by omega);go_wp2_with fail;exact⟨⟨k+1,p*10+x,mi,om,by omega,by go_num,by apply Xj;omega,rfl,aa (.inr ⟨by have:=ZD.out;omega,by rw[DC.out,au iI],rfl⟩)⟩,gN om⟩
         ·have f4:((p:Int)<100000)=False:=bU (by omega);go_wp2_with fail;exact⟨⟨k+1,p,mi,om,hp,by go_num,rfl,rfl,aa (.inr ⟨by have:=ZD.out;omega,by rw[DC.out,af iI],rfl⟩)⟩,gN om⟩
       ·have aeO:k=s.size:=by omega
        have Ii:=hR.out.resolve_left (by omega);have ajW:Hid (rX s.data.toList=(if mi=true then-(p:Int)else(p:Int))-(S.behind:Int)):=aa (by rw[HRX.out,au Zo,Ii.2.1,Ii.2.2,aeO]);clear hR Ii aeO;cases mi
        all_goals
         go_wp2_with fail;rw[ajW.out];go_ret2;exact⟨_,es,rfl,by rw[HSN.out];exact hI.out.more re⟩
    ·go_wp2_with fail;go_loop [6,9,10] (fun t6 t9 t10=>t6= .int .i64 ((i:Int)+1)∧t9= .int .i64 0∧t10= .bool false) (fun _ _ _=>0)
     case atStart=>exact⟨by go_num,rfl,rfl⟩
     case round=>
      obtain⟨rfl,rfl,rfl⟩:=hrel;go_wp2_with fail;rw[HRX.out,af Zo,Int.zero_sub];go_ret2;exact⟨_,es,rfl,by rw[HSN.out];exact hI.out.more re⟩
def nN (l:List UInt8):Nat:=if aR l=true then lg l l.length else(dG l (bO l)).n
def nX (l:List UInt8):Int:=if aR l=true then 0 else rX l
theorem Nq (s:ByteArray) (w:World) (hs:s.size≤512) (h0:ag s.data.toList=s.data.toList.length) (bZ:s.data.toList≠[]):
  Calls prog 128 #[.string s] w (wR w s.size (nN s.data.toList) (nX s.data.toList)):=by
 cases hh:aR s.data.toList
 ·have h1:nN s.data.toList=(dG s.data.toList (bO s.data.toList)).n:=by rw[nN,hh,af (by simp)]
  have h2:nX s.data.toList=rX s.data.toList:=by rw[nX,hh,af (by simp)]
  rw[h1,h2];obtain⟨hm,_,he⟩:=mu h0 bZ hh;refine Dr s w hs (fun h=>?_) _ rfl hm ?_
  ·have:=(AL h0 bZ hh (by rw[ab];exact h)).1
   rwa [ar h]at this
  ·rw[ab]at he;exact he
 ·have h1:nN s.data.toList=lg s.data.toList s.size:=by rw[nN,hh,au rfl,ab]
  have h2:nX s.data.toList=0:=by rw[nX,hh,au rfl]
  rw[h1,h2];obtain⟨g1,_,g3,g4⟩:=sX h0 hh;rw[ab]at g1;refine Dq s w hs (by omega) ?_ (fun i h hi=>?_)
  ·rwa [ar (by omega)]at g3
  ·have:=g4.2 i hi (by rw[ab];exact h)
   rwa [ar h]at this
theorem Pp (h0:ag l=l.length) (bZ:l≠[]) (hh:aR l=false) (hl:l.length≤512):
  (rX l=gm l-((dG l (bO l)).behind:Int)∨(9000≤rX l∧9000≤gm l-((dG l (bO l)).behind:Int))∨(rX l≤ -10000∧gm l-((dG l (bO l)).behind:Int)≤ -10000))∧ -2000000≤rX l∧rX l≤2000000:=by
 obtain⟨hm,_,he⟩:=mu h0 bZ hh;have hb:=tg (l:=l) (bO l) hm.1;have hml:=hm.1;unfold rX gm;by_cases ax:bO l<l.length
 ·rw[au ax,au ax];rcases he with he|⟨_,he⟩
  ·omega
  ·obtain⟨h1,h2⟩:=YO (l:=l) (j:=pJ l) l.length (ju he.some) (aS _) he.fk;generalize LA l (pJ l) l.length=r at*
   generalize zR l (pJ l) l.length=e at*
   split<;>omega
 ·rw[af ax,af ax];omega
theorem Vf (h0:ag l=l.length) (bZ:l≠[]) (hl:l.length≤512): -2000000≤nX l∧nX l≤2000000:=by
 unfold nX;cases hh:aR l
 ·rw[af (by simp)];exact(Pp h0 bZ hh hl).2
 ·rw[au rfl];omega
theorem YP:0<pj:=Nat.lt_of_lt_of_le (show 0<10000000000000000000 by decide) (ju YF)
theorem verdict (h0:ag l=l.length) (bZ:l≠[]) (hl:l.length≤512):
  (nN l=0→vI l=false)∧(nN l≠0→400<nX l→vI l=true)∧(nX l< -1000→vI l=false)∧(-1000≤nX l→nX l≤400→(vI l=true↔pj*10^(-nX l).toNat≤nN l*10^(nX l).toNat)):=by
 have hi:=Vd h0 bZ hl;unfold tooBig at hi;cases hh:aR l
 ·have e1:nN l=(dG l (bO l)).n:=by rw[nN,hh,af (by simp)]
  have e2:nX l=rX l:=by rw[nX,hh,af (by simp)]
  rw[af (by rw[hh];simp)]at hi;obtain⟨hm,_,_⟩:=mu h0 bZ hh;have hml:=hm.1;have hn:=GS hm (bO l) (aS _);obtain⟨hx,_⟩:=Pp h0 bZ hh hl;rw[e1,e2];have hN: ∀b:Bool,¬b=true→b=false:=by decide
  generalize (dG l (bO l)).n=N at*
  generalize rX l=R at*
  generalize gm l-((dG l (bO l)).behind:Int)=X at*
  have hn5:N≤10^512:=bP (ju hn) (OK _ 512 (by omega));refine⟨fun hz=>hN _ fun h=>?_,fun hz hg=>?_,fun hg=>hN _ fun h=>?_,fun g1 g2=>?_⟩
  ·subst hz;exact Pj (hi.1 h)
  ·refine hi.2 (Ms (a:=0) (by rw[pA];omega) ?_);rcases hx with hx|hx|hx<;>omega
  ·refine oN (a:=512) hn5 ?_ (hi.1 h);rcases hx with hx|hx|hx<;>omega
  ·have:R=X:=by rcases hx with hx|hx|hx<;>omega
   subst this;exact hi
 ·have e1:nN l=lg l l.length:=by rw[nN,hh,au rfl]
  have e2:nX l=0:=by rw[nX,hh,au rfl]
  rw[au hh]at hi;rw[e1,e2];have hN: ∀b:Bool,¬b=true→b=false:=by decide
  have hp:=YP;refine⟨fun hz=>hN _ fun h=>?_,fun hz hg=>?_,fun hg=>?_,fun g1 g2=>?_⟩
  ·have:=hi.1 h;rw[hz]at this;exact absurd hp (Nat.not_lt.2 this)
  ·exact absurd hg (by decide)
  ·exact absurd hg (by decide)
  ·rw[show (-(0:Int)).toNat=0 from rfl,show (0:Int).toNat=0 from rfl,pA,ow,ow];exact hi
