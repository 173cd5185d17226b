import Derived.Laws.Bits64b
import Derived.Test.YtcdoilkjmjbgmaaGreatDoorS15
/- Part of the proof of YtcdoilkjmjbgmaaGreatDoorCardY: OvC OvD RbG RbH OvE OvF OvG RbJ RbI RbK OvH RbL RbM RbN. -/
set_option maxRecDepth 100000
set_option maxHeartbeats 4000000
set_option linter.unusedVariables false
set_option linter.unusedSimpArgs false
namespace Go.Proofs.YtcdoilkjmjbgmaaGreatDoor
open Go.RowKit
open Go.Proofs.Tryz
variable {n m x vn v1 J K hi lo u d k a b M N D drop y c Z s m1 i j:Nat} {e p A X e1:Int} {S:cM} {v:Value} {es fs:List Nat} {w w' wr w2:World} {l:List UInt8} {tr:Bool}
theorem YL (h:n<9223372036854775808):SU n=n:=by
 unfold SU;rw[s5 (by omega),show (9223372036854775807:Nat)=2^63-1 by decide,Dp,s5 (by omega)]
theorem kg (h:n<eY):dQ n=false:=by
 have h0:n<9218868437227405312:=h;unfold dQ;rw[YL (by omega)];have ud:Ieee.double.read 9218868437227405311= .number false 9007199254740991 971:=by decide+kernel
 have hs:Ieee.double.signWeight=9223372036854775808:=by decide+kernel
 have hi:Ieee.double.infRung=9218868437227405312:=by decide+kernel
 have hb:Ieee.double.binade=4503599627370496:=by decide+kernel
 have hp:Ieee.double.leastPlace= -1074:=by decide+kernel
 have hr: ∃m e,Ieee.double.read n= .number false m e∧m≤9007199254740991∧e≤971:=by
  have e1:n/9223372036854775808=0:=tp (by omega);have e2:n%9223372036854775808=n:=s5 (by omega);unfold Ieee.Format.read;rw[hs,hi,hb,hp,e1,e2];simp only[Nat.zero_mod];split
  ·exact⟨_,_,rfl,by omega,by omega⟩
  ·exact⟨_,_,rfl,by omega,by omega⟩
 obtain⟨m,e,hre,hm,he⟩:=hr;show ((Ieee.double.read n).order (Ieee.double.read 9218868437227405311)==some .gt)=false;rw[hre,ud];simp only[Ieee.Datum.order];rw[Int.min_eq_left he];have hle:Ieee.signed false m (e-e).toNat≤Ieee.signed false 9007199254740991 (971-e).toNat:=by
  unfold Ieee.signed;simp only[lk,iw];rw[show (e-e).toNat=0 by omega,Nat.shiftLeft_zero,Nat.shiftLeft_eq];have:9007199254740991*1≤9007199254740991*2^(971-e).toNat:=tZ _ (eZ (by omega));omega
 generalize Ieee.signed false m (e-e).toNat=A at hle ⊢
 generalize Ieee.signed false 9007199254740991 (971-e).toNat=B at hle ⊢
 have hc:compare A B≠.gt:=by
  intro hc;have:=Int.compare_eq_gt.1 hc;omega
 cases hcc:compare A B
 ·rfl
 ·rfl
 ·exact absurd hcc hc
theorem uy:dQ eY=true:=by decide+kernel
theorem YM: ∀s:Fin 2048,bits .and .i64 (s.val:Int) 2047=(s.val:Int):=by decide+kernel
theorem pS {x:Int} (hm:m<18446744073709551616) (h0:0≤x) (h1:x≤2046):dQ (gD (m:Int) x).toNat=false:=by
 obtain⟨y,rfl⟩: ∃y:Nat,x=(y:Int):=⟨x.toNat,by omega⟩;have e1:=YM ⟨y,by omega⟩;simp only at e1;have e2:IntKind.u64.wrap (IntKind.u64.wrap (y:Int)*4503599627370496)=((y*4503599627370496:Nat):Int):=by
  rw[cZ,cZ];omega
 have e3:=bits_and_u64_nat m 4503599627370495 hm (by omega);have e4:m&&&4503599627370495=m%4503599627370496:=by
  rw[show (4503599627370495:Nat)=2^52-1 by decide,Dp]
 have aA:m%4503599627370496<4503599627370496:=my _ (by omega);have e5:=bits_or_u64_nat (m%4503599627370496) (y*4503599627370496) (by omega) (by omega);have e6:m%4503599627370496|||y*4503599627370496=y*4503599627370496+m%4503599627370496:=by
  have:=Ip (i:=52) (b:=m%4503599627370496) aA y;rw[Nat.or_comm,fx y];exact this.symm
 have hf:gD (m:Int) (y:Int)=((y*4503599627370496+m%4503599627370496:Nat):Int):=by
  unfold gD;rw[e1,e2];have e3':bits .and .u64 (m:Int) 4503599627370495=((m%4503599627370496:Nat):Int):=by rw[←e4];exact e3
  rw[e3',e5,e6]
 rw[hf,mn];apply kg;show _<9218868437227405312;omega
theorem xM:dQ Bf.1.toNat=true:=by decide+kernel
theorem U6 (S:cM):FB S<18446744073709551616:=by
 unfold FB lH;split
 ·omega
 ·split
  ·omega
  ·omega
theorem zk (hm:m<18446744073709551616) (h0: -1022≤e) (h1:e≤1023):(pD m e).2=false∧dQ (pD m e).1.toNat=false:=by
 unfold pD;split
 ·exact⟨rfl,pS hm (by omega) (by omega)⟩
 ·exact⟨rfl,pS hm (by omega) (by omega)⟩
theorem zl (h0: -1022≤e):dQ (pE S e).1.toNat=(pE S e).2∧((pE S e).2=true↔1024≤e∨(e=1023∧FB (S.ls 53)=9007199254740992)):=by
 unfold pE;by_cases h1:2047≤e+1023
 ·rw[az h1];exact⟨xM,⟨fun _=>.inl (by omega),fun _=>rfl⟩⟩
 ·rw[ah h1];unfold uf;by_cases h2:FB (S.ls 53)=9007199254740992
  ·rw[az h2];by_cases h3:2047≤e+1+1023
   ·rw[az h3];exact⟨xM,⟨fun _=>.inr ⟨by omega,h2⟩,fun _=>rfl⟩⟩
   ·rw[ah h3];obtain⟨a,b⟩:=zk (m:=4503599627370496) (e:=e+1) (by omega) (by omega) (by omega);rw[a,b];refine⟨rfl,⟨fun h=>by simp at h,fun h=>?_⟩⟩;omega
  ·rw[ah h2];obtain⟨a,b⟩:=zk (m:=FB (S.ls 53)) (e:=e) (U6 _) (by omega) (by omega);rw[a,b];refine⟨rfl,⟨fun h=>by simp at h,fun h=>?_⟩⟩;rcases h with h|h
   ·omega
   ·exact absurd h.2 h2
theorem MZ:dQ (tD S e).1.toNat=(tD S e).2∧((tD S e).2=true↔1024≤e∨(e=1023∧FB (S.ls 53)=9007199254740992)):=by
 unfold tD;by_cases h:e< -1022
 ·rw[az h];obtain⟨a,b⟩:=zl (S:=cM.Lr (-1022-e).toNat S) (e:= -1022) (by omega);refine⟨a,?_⟩;rw[b];constructor
  ·rintro(h|h)<;>omega
  ·rintro(h|h)<;>omega
 ·rw[ah h];exact zl (by omega)
theorem OQ: ∀(f:Nat) (S:cM) (e:Int),(zB f S e).2≤e
 |0,S,e=>by simp[zB]
 |f+1,S,e=>by
  by_cases hl:yG S
  ·rw[By hl];have:=OQ f (S.ls (gC (-S.dp).toNat)) (e-gC (-S.dp).toNat);omega
  ·rw[Gi hl];exact Int.le_refl _
theorem YN {v:Nat} {R:Prop} (a b c p g x e:Nat) (hb:b=a+1) (aQ:b=54+c) (hc:c=p+g) (hg:3≤g) (he:e=54+x)
  (AG:10^b≤2*vn) (sP:vn<10^b) (hS1:10^a≤v1) (j5:vn=v1*2^J) (k4: ∀X,10^p ∣ X→(X≤v1↔X*2^K≤v)) (Dv:R↔(2^54-1)*5^54*10^c≤vn):
  (K<J+e→ ¬(2^54-1)*2^x*10^b≤v)∧(K=J+e→(R↔(2^54-1)*2^x*10^b≤v))∧(J+e<K→(2^54-1)*2^x*10^b≤v):=by
 have hJ:J<4:=by
  rcases dE J 4 with h|h
  ·exact h
  ·exfalso;have h16:2^4≤2^J:=dZ (by omega) h;have h1:=abU hS1 h16;rw[←j5]at h1;rw[aeJ a b hb]at sP;generalize 10^a=P at h1 sP;omega
 have hP:0<2^J:=eZ (by omega);have key: ∀t,t*10^c≤vn↔t*10^c*2^K≤v*2^J:=fun t=>by
  obtain⟨d,hd⟩:=abS J t p g c hc (by omega);have hT:t*10^c=10^p*d*2^J:=by rw[hd];simp only[cg,fx,qh]
  have k5:=k4 (10^p*d) (Nat.dvd_mul_right _ _);rw[hT,j5];generalize 10^p*d=X at k5;rw[yk hP,k5,yn X,yk hP]
 have Lt:=OL 54 c b aQ;have A:5*10^53*10^c*2^K≤v*2^J:=by
  rw[←key];have:5*10^53*10^c*2=(10:Nat)^b:=by
   rw[Lt,show (10:Nat)^54=10^53*10 by rw[←ep]];generalize (10:Nat)^53=u;generalize (10:Nat)^c=z;rw[show u*10*z=5*u*2*z by rw[show 5*u*2=u*10 by omega]];rw[yn]
  omega
 have B:v*2^J<10^54*10^c*2^K:=by
  rcases dE (v*2^J) (10^54*10^c*2^K)with h|h
  ·exact h
  ·have:=(key (10^54)).2 h;rw[←Lt]at this;omega
 have C:=key ((2^54-1)*5^54);rw[←Dv]at C;rw[Lt];have e54:(2:Nat)^e=2^54*2^x:=by rw[he,dV]
 have ajX:(10:Nat)^54=5^54*2^54:=by rw[←Ba]
 refine⟨fun hK hh=>?_,fun hK=>?_,fun hK=>?_⟩
 ·have h1:(10:Nat)^54*10^c*2^K≤10^54*10^c*2^(J+53+x):=tZ _ (dZ (by omega) (by omega));have h2:(2:Nat)^(J+53+x)=2^53*2^x*2^J:=by rw[←dV,←dV,show 53+x+J=J+53+x by omega]
  have h3:(2^54-1)*2^x*(10^54*10^c)*2^J≤v*2^J:=fg _ hh;rw[h2]at h1;generalize (10:Nat)^54*10^c=u at B h1 h3;generalize (2:Nat)^J=j at B h1 h3;generalize (2:Nat)^x=y at h1 h3;have h4:(2^54-1)*y*u*j<u*(2^53*y*j):=by omega
  have h5:u*(2^53*y*j)≤(2^54-1)*y*u*j:=by
   have e1:u*(2^53*y*j)=2^53*(y*u*j):=by simp only[cg,fx,qh]
   have e2:(2^54-1)*y*u*j=(2^54-1)*(y*u*j):=by simp only[cg]
   rw[e1,e2];exact fg _ (by decide)
  omega
 ·have h1:(2^54-1)*5^54*10^c*2^K=(2^54-1)*2^x*(10^54*10^c)*2^J:=by
   rw[hK,A8 J e,dV,e54,ajX];simp only[cg,fx,qh]
  rw[C,h1,yk hP]
 ·have h1:5*10^53*10^c*2^(J+e+1)≤v*2^J:=bR (tZ _ (dZ (by omega) (by omega))) A;have h2:(2:Nat)^(J+e+1)=2*(2^54*2^x)*2^J:=by rw[←e54,←A7,←dV,show e+1+J=J+e+1 by omega]
  rw[h2,←cg,yk hP]at h1;refine bR ?_ h1;rw[show (10:Nat)^54=10^53*10 by rw[←ep]];generalize (10:Nat)^53=u;generalize (10:Nat)^c=z;generalize (2:Nat)^x=y;have e1:5*u*z*(2*(2^54*y))=2^54*(y*(u*10*z)):=by
   rw[show u*10=5*u*2 by omega];simp only[cg,fx,qh]
  rw[e1,cg];exact fg _ (by decide)
theorem U7 (ok:S.Ok):dQ (FC S).1.toNat=(FC S).2∧((FC S).2=true↔310<S.dp∨(0≤S.dp∧S.dp≤310∧(2^54-1)*2^970*10^800≤vF S)):=by
 have hn: ¬S.nd=0:=by have:=ok.pos;omega
 unfold FC;rw[ah hn];by_cases h1:310<S.dp
 ·rw[az h1];exact⟨xM,⟨fun _=>.inl h1,fun _=>rfl⟩⟩
 ·rw[ah h1];by_cases h2:S.dp< -330
  ·rw[az h2];have:=pS (m:=0) (x:=0) (by omega) (by omega) (by omega);refine⟨this,?_⟩;simp only[lk,false_iff];omega
  ·rw[ah h2];obtain⟨a,b⟩:=MZ (S:=(zB 34000 (tU 1000 S 0).1 (tU 1000 S 0).2).1) (e:=(zB 34000 (tU 1000 S 0).1 (tU 1000 S 0).2).2-1);refine⟨a,?_⟩;rw[b];by_cases h3:S.dp<0
   ·rw[Gh (by omega)];have:=OQ 34000 S 0;simp only;constructor
    ·rintro(h|h)<;>omega
    ·rintro(h|h)<;>omega
   ·have hD:=ok.gK.1 0 ok.pos;obtain⟨K,k1,k2,k3,k4⟩:=Jo 1000 S 0 ok (by omega) (by omega) (by unfold Zy;split<;>omega);have td:Si (tU 1000 S 0).1≤34000:=by unfold Si;rw[ah (by omega)];omega
    obtain⟨J,j1,j2,j3,j4,j5⟩:=EP 34000 (tU 1000 S 0).1 (tU 1000 S 0).2 k2 k3 td;have Dv:=Yx j2 j3 j4;have hE:(zB 34000 (tU 1000 S 0).1 (tU 1000 S 0).2).2-1=(K:Int)-J-1:=by rw[j1,k1];omega
    rw[hE];generalize (zB 34000 (tU 1000 S 0).1 (tU 1000 S 0).2).1=Sn at j2 j3 j4 j5 Dv ⊢
    generalize (tU 1000 S 0).1=S1 at k2 k3 k4 j5;have hl:=OM j2;have qM:=j2.pos;have hle:=j2.le;have hAA:10^Sn.nd=10*10^(Sn.nd-1):=by rw[←A7];congr 1;omega
    have e8:(10:Nat)^Sn.nd*10^(800-Sn.nd)=10^800:=by rw[←dV];congr 1;omega
    have hvn:vF Sn=pre Sn.D Sn.nd Sn.nd*10^(800-Sn.nd):=by rw[vF,j3];simp
    have hD9:=j2.gK.1 0 qM;have AG:10^800≤2*vF Sn:=by
     rw[←e8,hvn,←cg];apply fg;have:5*10^(Sn.nd-1)≤(Sn.D 0-48)*10^(Sn.nd-1):=fg _ (by omega);omega
    have sP:vF Sn<10^800:=by
     rw[←e8,hvn];exact qB (xx j2.gK Sn.nd) (eZ (by omega))
    have hS1:10^799≤vF S1:=by
     have hl1:=lN k2.gK k2.pos (S1.nd-1);have hp1:=k2.pos;have arc:=k2.le;rw[Iw hp1]at hl1;have e9:(10:Nat)^(S1.nd-1)*10^(800-S1.nd)=10^799:=by rw[←dV];congr 1;omega
     rw[vF,k3,←e9,show 800+(0:Int).toNat-S1.nd=800-S1.nd by simp];exact fg _ hl1
    obtain⟨t1,t2,t3⟩:=YN (R:=FB (Sn.ls 53)=9007199254740992) 799 800 746 310 436 970 1024 rfl rfl rfl (by omega) rfl AG sP hS1 j5 k4 Dv;rcases Ed K (J+1024)with hK|hK|hK
    ·have ajY:=t1 hK;constructor
     ·rintro(h|h)<;>omega
     ·rintro(h|⟨_,_,h⟩)
      ·omega
      ·exact absurd h ajY
    ·rw[←t2 hK];constructor
     ·rintro(h|h)
      ·omega
      ·exact .inr ⟨by omega,by omega,h.2⟩
     ·rintro(h|⟨_,_,h⟩)
      ·omega
      ·exact .inr ⟨by omega,h⟩
    ·have ajZ:=t3 hK;constructor
     ·rintro _;exact .inr ⟨by omega,by omega,ajZ⟩
     ·rintro _;exact .inl (by omega)
def Hm:Nat:=36028797018963966
theorem j0 (a:Nat):a|||1≤a+1:=by
 have h:a|||1=a/2*2+1:=by
  have h2:a/2*2+1=2^1*(a/2)+1:=by omega
  rw[h2,Ip (by omega)];apply Nat.eq_of_testBit_eq;intro i;rw[Nat.testBit_or,Nat.testBit_or];cases i with
  |zero=>simp
  |succ i=>
   have e1:(2^1*(a/2)).testBit (i+1)=a.testBit (i+1):=by
    rw[Nat.testBit_two_pow_mul];simp[Nat.testBit_succ]
   rw[e1]
 omega
theorem j6 (a:Nat):a≤a|||1:=Nat.left_le_or
theorem kh (a:Nat):(a|||1)%2=1:=by
 simp
theorem E3 (a:Nat) {c:Nat} (h:c≤1):a≤a|||c∧a|||c≤a|||1:=by
 have:c=0∨c=1:=by omega
 rcases this with rfl|rfl
 ·rw[Nat.or_zero];exact⟨aS _,j6 a⟩
 ·exact⟨j6 a,aS _⟩
theorem xN (x hi lo s:Nat):(x*hi/18446744073709551616-1)/2^s≤gH x hi lo s∧gH x hi lo s≤(x*hi/18446744073709551616/2^s)|||1:=by
 unfold gH;obtain⟨y,hy⟩: ∃y,y=x*hi/18446744073709551616:=⟨_,rfl⟩;rw[←hy];split
 ·exact⟨bR (Eb (Nat.sub_le _ _)) (j6 _),aS _⟩
 ·obtain⟨b,hb,aY⟩: ∃b,b=(if x*hi%18446744073709551616<x*lo/18446744073709551616 then 1 else 0)∧b≤1:=⟨_,rfl,by split<;>omega⟩;obtain⟨c,hc,jK⟩: ∃c,c=(if 1<(x*hi%18446744073709551616+18446744073709551616-x*lo/18446744073709551616)%18446744073709551616 then 1 else 0)∧c≤1:=⟨_,rfl,by split<;>omega⟩;rw[←hb,←hc];obtain⟨h1,h2⟩:=E3 ((y-b)/2^s) jK;refine⟨bR (Eb (by omega)) h1,bR h2 ?_⟩;have h3:(y-b)/2^s≤y/2^s:=Eb (Nat.sub_le _ _);have h4:=kh ((y-b)/2^s);have h5:=kh (y/2^s);have h6:=j0 ((y-b)/2^s);have h7:=j6 (y/2^s);omega
theorem ag4 (h:256*Hm+1≤x*hi/18446744073709551616):Hm≤gH x hi lo 8:=by
 unfold gH;have e:(2:Nat)^8=256:=by decide
 rw[e];obtain⟨y,hy⟩: ∃y,y=x*hi/18446744073709551616:=⟨_,rfl⟩;rw[←hy]at h ⊢
 unfold Hm at*
 split
 ·exact bR (by omega) (j6 _)
 ·rename_i hm;refine bR ?_ Nat.left_le_or;split<;>omega
theorem ξ (h:x*hi/18446744073709551616<256*Hm):gH x hi lo 8<Hm:=by
 have hb:=(xN x hi lo 8).2;have e:(2:Nat)^8=256:=by decide
 rw[e]at hb;have h1:=kh (x*hi/18446744073709551616/256);have h2:=j0 (x*hi/18446744073709551616/256);unfold Hm at*
 generalize x*hi/18446744073709551616=y at*
 omega
def o0:Nat:=(2^54-1)*2^970
def Ss (p:Nat):Nat:=(o0+10^p-1)/10^p
theorem OS (p d:Nat):o0≤d*10^p↔Ss p≤d:=by
 have hP:0<10^p:=eZ (by omega);unfold Ss;generalize 10^p=P at hP ⊢
 generalize o0=N;rw[Nat.div_le_iff_le_mul_add_pred hP,fx P d];omega
def Tu (p : Nat) : Bool :=
  let L:=1024-(p*108853/32768)
  let T:=Ss p
  decide (p*108853/32768≤1023)&&decide (1≤L)&&decide (L≤61)&&decide (2^(L-1)≤T)&&decide (T≤2^L)&&
  decide ((T-1)*2^(64-L)*dW p/18446744073709551616<256*Hm)&&
  (if p = 290 then decide (Hm ≤ gH (T * 2 ^ (64 - L)) (dW p) (kP p) 8) && decide (256 * Hm + 1 ≤ (T + 1) * 2 ^ (64 - L) * dW p / 18446744073709551616)
   else decide (256*Hm+1≤T*2^(64-L)*dW p/18446744073709551616))
theorem QN:((List.range 19).all fun i=>Tu (290+i))=true:=by kernel_rfl
def ak0:Bool:=Pinned.pow10Rows.all fun r=>decide (9223372036854775808≤r.1)&&decide (r.1≤18446744073709551616-18014398509481984)
theorem U8:ak0=true:=by kernel_rfl
theorem ag5:Pinned.pow10Rows.length=696:=by kernel_rfl
theorem wS (h0: -348≤p) (h1:p≤347):9223372036854775808≤dW p∧dW p≤18446744073709551616-18014398509481984:=by
 have hl:=ag5;have hi:(p+348).toNat<Pinned.pow10Rows.length:=by omega
 unfold dW;rw[lf,lJ hi,Option.getD_some];have:=qS.1 U8 _ (jj hi);simp only[kH,ua]at this;exact this
theorem ag6:10000000000000000000*dW ((289:Nat):Int)/18446744073709551616<256*Hm:=by decide+kernel
theorem ac2:10000000000000000000<Ss 289:=by decide+kernel
theorem ag7:Ss 309≤1∧Ss 310≤1:=by decide+kernel
theorem ag8:10000000000000000000*10^288<o0:=by decide+kernel
theorem ag9 (h0:4503599627370496≤m) (h1:m<9007199254740992):m&&&4503599627370496≠0:=by
 intro h;have h2:(m&&&2^52).testBit 52=false:=by
  rw[show (2:Nat)^52=4503599627370496 by decide,h];simp
 rw[Nat.testBit_and,Nat.testBit_two_pow_self,Bool.and_true]at h2;have h3:m.testBit 52=true:=by
  rw[Nat.testBit_eq_decide_div_mod_eq,zK];rw[show (2:Nat)^52=4503599627370496 by decide];omega
 rw[h3]at h2;cases h2
theorem E4 (hm:m<9007199254740992) (h0: -1074≤e) (h1:e≤971):lG m e<eY:=by
 unfold lG;split
 ·show m<9218868437227405312;omega
 ·rw[ah (by omega)];have hc:m&&&18442240474082181119=m%4503599627370496:=by
   have e1:m=m&&&(2^53-1):=by rw[Dp];exact(s5 (by simpa using hm)).symm
   conv=>lhs;rw[e1]
   rw[Nat.and_assoc,show (2^53-1:Nat)&&&18442240474082181119=2^52-1 by decide,Dp]
  obtain⟨k,hk⟩: ∃k:Nat,k=(1075+e).toNat:=⟨_,rfl⟩;have zE:k≤2046:=by omega
  rw[hc,←hk,s5 (show k*4503599627370496<18446744073709551616 by omega)];have aA:m%4503599627370496<4503599627370496:=my _ (by omega);have e6:m%4503599627370496|||k*4503599627370496=k*4503599627370496+m%4503599627370496:=by
   have:=Ip (i:=52) (b:=m%4503599627370496) aA k;rw[Nat.or_comm,fx k];exact this.symm
  rw[e6];show _<9218868437227405312;omega
theorem Cv (h1:u<72057594037927936-1024):Po u<9007199254740992∧(18014398509481983≤u→4503599627370496≤Po u):=by
 unfold Po xw;have ha:u&&&1≤1:=by rw[Oj];omega
 obtain⟨b1,b2⟩:=E3 (u/2^r6 u) ha;have b3:=j0 (u/2^r6 u);have b4:=kh (u/2^r6 u);obtain⟨v,hv⟩: ∃v,v=u/2^r6 u|||(u&&&1):=⟨_,rfl⟩;rw[←hv]at b1 b2 ⊢
 have hc:v/4&&&1≤1:=by rw[Oj];omega
 obtain⟨c,hcc⟩: ∃c,c=v/4&&&1:=⟨_,rfl⟩;rw[←hcc]at hc ⊢
 by_cases ht:36028797018963966≤u
 ·have e:r6 u=1:=az ht;rw[e,Nat.pow_one]at b1 b2 b3 b4;omega
 ·have e:r6 u=0:=ah ht;rw[e,o9,Nat.div_one]at b1 b2 b3 b4;omega
theorem zm (h:0<d):2^d.log2≤d∧d<2^(d.log2+1):=⟨Nat.log2_self_le (by omega),A3⟩
theorem QO (hd:0<d) (oX:d≤10000000000000000000) (h0: -345≤p) (h1:p≤310):dQ (lp d p)=true↔0≤p∧Ss p.toNat≤d:=by
 obtain⟨l1,l2⟩:=zm hd;obtain⟨g,hg⟩: ∃g,g=d.log2:=⟨_,rfl⟩;rw[←hg]at l1 l2;have ak1:g≤63:=by
  rcases dE 63 g with h|h
  ·have:2^64≤2^g:=dZ (by omega) h;omega
  ·exact h
 obtain⟨q1,q2⟩:=wS (p:=p) (by omega) (by omega);obtain⟨x,hx⟩: ∃x,x=d*2^(63-g):=⟨_,rfl⟩;have lh:9223372036854775808≤x:=by
  have:2^g*2^(63-g)≤d*2^(63-g):=fg _ l1;rw[←dV,show g+(63-g)=63 by omega]at this;rw[hx];simpa using this
 have mj:x<18446744073709551616:=by
  have:d*2^(63-g)<2^(g+1)*2^(63-g):=qB l2 (eZ (by omega));rw[←dV,show g+1+(63-g)=64 by omega]at this;rw[hx];simpa using this
 obtain⟨A,hA⟩: ∃A:Int,A=((g+1:Nat):Int)+kO p:=⟨_,rfl⟩;have hE:Dh d p=min 1074 (53-A):=by rw[Dh,←hg,hA];congr 1;omega
 have hS:uV d p=61-(Dh d p+A):=by rw[uV,←hg,hA];omega
 obtain⟨y,hy⟩: ∃y,y=x*dW p/18446744073709551616:=⟨_,rfl⟩;have hy2:y<18446744073709551616-18014398509481984:=by
  have:x*dW p<18446744073709551616*dW p:=qB mj (by omega);omega
 have hy1:4611686018427387904≤y:=by
  have:9223372036854775808*9223372036854775808≤x*dW p:=ov lh q1;omega
 have hU:Lo d p=gH x (dW p) (kP p) (uV d p).toNat:=by rw[Lo,←hg,←hx]
 obtain⟨u1,u2⟩:=xN x (dW p) (kP p) (uV d p).toNat;rw[←hU,←hy]at u1 u2;obtain⟨u,hu⟩: ∃u,u=Lo d p:=⟨_,rfl⟩;rw[←hu]at u1 u2 hU;have hs8:8≤uV d p:=by rw[hS,hE];omega
 have hp8:(2:Nat)^8≤2^(uV d p).toNat:=dZ (by omega) (by omega);have KT:u<72057594037927936-1024:=by
  have h2:y/2^(uV d p).toNat≤y/2^8:=Og hp8 (by decide);have h3:=j0 (y/2^(uV d p).toNat);have e:(2:Nat)^8=256:=by decide
  rw[e]at h2;omega
 obtain⟨m1,m2⟩:=Cv KT;have ht:r6 u=0∨r6 u=1:=by unfold r6;split<;>simp
 have ak2:dQ (lp d p)=true↔1025≤A+r6 u:=by
  unfold lp;rw[←hu];by_cases iA:64≤uV d p
  ·rw[az iA];have:dQ 0=false:=kg (by decide);rw[this];rw[hS,hE]at iA;simp only[lk,false_iff];omega
  ·rw[ah iA];by_cases hc:1025≤A+r6 u
   ·have h8:(uV d p).toNat=8:=by rw[hS,hE];omega
    have e:(2:Nat)^8=256:=by decide
    rw[h8,e]at u1;have m3:=m2 (by omega);have:lG (Po u) (-(Dh d p-(r6 u:Int)))=eY:=by
     unfold lG;rw[ah (ag9 m3 m1),az (by rw[hE];omega)];rfl
    rw[this,uy];simp[hc]
   ·have:lG (Po u) (-(Dh d p-(r6 u:Int)))<eY:=E4 m1 (by rw[hE];omega) (by rw[hE];omega);rw[kg this];simp[hc]
 rw[ak2];have htu:r6 u=1↔Hm≤u:=by
  unfold r6 Hm;split<;>simp<;>omega
 have hlp:kO p=p*108853/32768:=rfl;by_cases ard:p<0
 ·have:A+r6 u<1025:=by rw[hA,hlp];omega
  constructor
  ·intro h;omega
  ·rintro⟨h,_⟩;omega
 ·obtain⟨n,rfl⟩: ∃n:Nat,p=(n:Int):=⟨p.toNat,by omega⟩;rw[mn];have hAn:A=((g+1+n*108853/32768:Nat):Int):=by rw[hA,hlp];omega
  have h8s:A=1024→(uV d (n:Int)).toNat=8:=fun h=>by rw[hS,hE];omega
  by_cases c1:n≤288
  ·have ti: ¬Ss n≤d:=by
    rw[←OS];have h0:=Ol n 288 c1;have h2:=ag8;generalize 10^288=Q at h0 h2;generalize 10^n=P at h0 ⊢
    have h1:d*P≤10000000000000000000*Q:=ov oX h0;omega
   constructor
   ·intro h;omega
   ·rintro⟨_,h⟩;exact absurd h ti
  ·by_cases c2:n=289
   ·subst c2;have ti: ¬Ss 289≤d:=by have:=ac2;omega
    constructor
    ·intro h;have ZM:A=1024:=by omega
     have ht1:r6 u=1:=by omega
     have hx3:x=d:=by rw[hx,show 63-g=0 by omega,o9,oj]
     have aA:x*dW ((289:Nat):Int)/18446744073709551616<256*Hm:=by
      refine o7 (Eb (fg _ ?_)) ag6;omega
     have h2:=ξ (lo:=kP ((289:Nat):Int)) aA;rw[h8s ZM]at hU;rw[←hU]at h2;have:=htu.1 ht1;omega
    ·rintro⟨_,h⟩;exact absurd h ti
   ·by_cases c3:n≤308
    ·have aeW:Tu n=true:=by
      have:=qS.1 QN (n-290) (qj.2 (by omega))
      rwa [show 290+(n-290)=n by omega]at this
     simp only[Tu,kH,ua]at aeW;obtain⟨⟨⟨⟨⟨⟨k1,k2⟩,k3⟩,k4⟩,k5⟩,k6⟩,k7⟩:=aeW;obtain⟨Lp,hLp⟩: ∃Lp,Lp=1024-n*108853/32768:=⟨_,rfl⟩;obtain⟨Tp,hTp⟩: ∃Tp,Tp=Ss n:=⟨_,rfl⟩;rw[←hLp,←hTp]at k4 k6;rw[←hLp]at k2 k3;rw[←hLp,←hTp]at k5 k7;rw[←hTp];rcases Ed (g+1) Lp with hL|hL|hL
     ·
      have h1:2^(g+1)≤2^(Lp-1):=dZ (by omega) (by omega);constructor
      ·intro h;omega
      ·rintro⟨_,h⟩;omega
     ·
      have ZM:A=1024:=by omega
      have hx3:x=d*2^(64-Lp):=by rw[hx];congr 2;omega
      rw[h8s ZM]at hU;constructor
      ·intro h;refine⟨by omega,?_⟩;rcases dE d Tp with aA|lW
       ·exfalso;have hy3:x*dW (n:Int)/18446744073709551616<256*Hm:=by
         refine o7 (Eb (fg _ ?_)) k6;rw[hx3];exact fg _ (by omega)
        have h2:=ξ (lo:=kP (n:Int)) hy3;rw[←hU]at h2;have:=htu.1 (by omega);omega
       ·exact lW
      ·rintro⟨_,h⟩;have lW:Hm≤u:=by
        rw[hU];have up: ∀T,T≤d→256*Hm+1≤T*2^(64-Lp)*dW (n:Int)/18446744073709551616→Hm≤gH x (dW (n:Int)) (kP (n:Int)) 8:=fun T hT hk=>by
         refine ag4 (bR hk (Eb (fg _ ?_)));rw[hx3];exact fg _ hT
        by_cases aeX:n=290
        ·rw[az aeX]at k7;simp only[kH,ua]at k7;rcases dE Tp d with aA|lW
         ·exact up (Tp+1) aA k7.2
         ·have:d=Tp:=by omega
          rw[hx3,this];exact k7.1
        ·rw[ah aeX]at k7;exact up Tp h (mR k7)
       have:=htu.2 lW;omega
     ·
      have h1:2^Lp≤2^g:=dZ (by omega) (by omega);constructor
      ·intro _;exact⟨by omega,by omega⟩
      ·intro _;omega
    ·have hT:Ss n≤1:=by
      have:=ag7;have hn:n=309∨n=310:=by omega
      rcases hn with rfl|rfl
      ·exact this.1
      ·exact this.2
     constructor
     ·intro _;exact⟨by omega,by omega⟩
     ·intro _;omega
theorem OT (hd:0<d) (oX:d≤10000000000000000000) (h0: -345≤p) (h1:p≤310):lp d p≤eY:=by
 obtain⟨l1,l2⟩:=zm hd;obtain⟨g,hg⟩: ∃g,g=d.log2:=⟨_,rfl⟩;rw[←hg]at l1 l2;have ak1:g≤63:=by
  rcases dE 63 g with h|h
  ·have:2^64≤2^g:=dZ (by omega) h;omega
  ·exact h
 obtain⟨q1,q2⟩:=wS (p:=p) (by omega) (by omega);obtain⟨x,hx⟩: ∃x,x=d*2^(63-g):=⟨_,rfl⟩;have lh:9223372036854775808≤x:=by
  have:2^g*2^(63-g)≤d*2^(63-g):=fg _ l1;rw[←dV,show g+(63-g)=63 by omega]at this;rw[hx];simpa using this
 have mj:x<18446744073709551616:=by
  have:d*2^(63-g)<2^(g+1)*2^(63-g):=qB l2 (eZ (by omega));rw[←dV,show g+1+(63-g)=64 by omega]at this;rw[hx];simpa using this
 obtain⟨A,hA⟩: ∃A:Int,A=((g+1:Nat):Int)+kO p:=⟨_,rfl⟩;have hE:Dh d p=min 1074 (53-A):=by rw[Dh,←hg,hA];congr 1;omega
 have hS:uV d p=61-(Dh d p+A):=by rw[uV,←hg,hA];omega
 obtain⟨y,hy⟩: ∃y,y=x*dW p/18446744073709551616:=⟨_,rfl⟩;have hy2:y<18446744073709551616-18014398509481984:=by
  have:x*dW p<18446744073709551616*dW p:=qB mj (by omega);omega
 have hy1:4611686018427387904≤y:=by
  have:9223372036854775808*9223372036854775808≤x*dW p:=ov lh q1;omega
 have hU:Lo d p=gH x (dW p) (kP p) (uV d p).toNat:=by rw[Lo,←hg,←hx]
 obtain⟨u1,u2⟩:=xN x (dW p) (kP p) (uV d p).toNat;rw[←hU,←hy]at u1 u2;obtain⟨u,hu⟩: ∃u,u=Lo d p:=⟨_,rfl⟩;rw[←hu]at u1 u2 hU;have hs8:8≤uV d p:=by rw[hS,hE];omega
 have hp8:(2:Nat)^8≤2^(uV d p).toNat:=dZ (by omega) (by omega);have KT:u<72057594037927936-1024:=by
  have h2:y/2^(uV d p).toNat≤y/2^8:=Og hp8 (by decide);have h3:=j0 (y/2^(uV d p).toNat);have e:(2:Nat)^8=256:=by decide
  rw[e]at h2;omega
 obtain⟨m1,m2⟩:=Cv KT;have ht:r6 u=0∨r6 u=1:=by unfold r6;split<;>simp
 unfold lp;rw[←hu];by_cases iA:64≤uV d p
 ·rw[az iA];exact aV _
 ·rw[ah iA];by_cases hc:972≤ -(Dh d p-(r6 u:Int))
  ·unfold lG;split
   ·show Po u≤9218868437227405312;omega
   ·first|exact aS _|(rw[az hc];exact aS _)
  ·exact jk (E4 m1 (by rw[hE];omega) (by omega))
def Dm (b:Nat):Nat:=if b/4503599627370496=0 then b else b%4503599627370496+4503599627370496
def AJ (b:Nat):Int:=if b/4503599627370496=0 then-1074 else((b/4503599627370496:Nat):Int)-1075
theorem E5 (w:World) (b:Nat) (hb:b<9223372036854775808):
  Calls prog 141 #[.int .u64 (b:Int)] w fun e w'=>e= .returned (.tuple #[.int .u64 (Dm b:Int),.int .i64 (AJ b)])∧w'=w:=by
 obtain⟨M,hM⟩: ∃M,M=Dm b:=⟨_,rfl⟩;obtain⟨E,hE⟩: ∃E,E=AJ b:=⟨_,rfl⟩;rw[←hM,←hE];obtain⟨x,hx⟩: ∃x,x=b/4503599627370496:=⟨_,rfl⟩;have q1:(b:Int)/4503599627370496=(x:Int):=by omega
 unfold Dm at hM;unfold AJ at hE;rw[←hx]at hM hE;by_cases h0:x=0
 ·rw[az h0]at hM hE;subst hM hE;have p1:((x:Int)=0)=True:=aD (by omega);go_enter func141,ntmps141;go_wp2_with fail
  all_goals (go_ret2;exact⟨rfl,rfl⟩)
 ·rw[ah h0]at hM hE;have p1:((x:Int)=0)=False:=bT (by omega);have aA:b%4503599627370496<4503599627370496:=my _ (by decide);have q2:bits .and .u64 (b:Int) 4503599627370495=((b%4503599627370496:Nat):Int):=by
   have:=bits_and_u64_nat b 4503599627370495 (by omega) (by decide);rw[show (4503599627370495:Nat)=2^52-1 by decide,Dp]at this;exact this
  obtain⟨abc,Ij⟩: ∃l,l=b%4503599627370496:=⟨_,rfl⟩;rw[←Ij]at q2 hM aA;have q3:bits .or .u64 (abc:Int) 4503599627370496=(M:Int):=by
   have h1:=bits_or_u64_nat abc 4503599627370496 (by omega) (by decide);have h2:=Ip (i:=52) (b:=abc) (by simpa using aA) 1;rw[oj,show (2:Nat)^52=4503599627370496 by decide,Nat.or_comm]at h2;rw[←h2]at h1;rw[hM,A8];exact h1
  have bx:x≤2047:=by omega
  clear hM hx Ij;subst hE;go_enter func141,ntmps141;go_wp2_with fail
  all_goals (go_ret2;exact⟨rfl,rfl⟩)
theorem OU (h:eu es) (h2:aE fs=aE es*2^k) (h3:Norm fs):fs.length≤es.length+k:=by
 apply mH h3;have h1:=pN es h;have h5:(2:Nat)^k≤4294967296^k:=Nat.pow_le_pow_left (by decide) k;rw[h2,dV];exact o7 (tZ _ h5) (qB h1 (eZ (by decide)))
def H7 (m:Nat) (e:Int) (N D:Nat):Int:=if 0≤e then qF (m*D*2^e.toNat) N else qF (m*D) (N*2^(-e).toNat)
theorem zn (w:World) (m:Nat) (e:Int) (vn vd:Value) (ns ds:List Nat) (hm:m<18446744073709551616) (he0: -100000≤e) (he1:e≤100000) (hn:pA w vn ns) (hd:pA w vd ds) (ti:eu ns) (hdo:eu ds) (qI:Norm ns) (Lv:ns.length≤1000000) (Pu:ds.length≤1000000):
  Calls prog 142 #[.int .u64 (m:Int),.int .i64 e,vn,vd] w fun e' w'=>e'= .returned (.int .i64 (H7 m e (aE ns) (aE ds)))∧Below w.heap.size w w':=by
 obtain⟨V,hV⟩: ∃V,V=H7 m e (aE ns) (aE ds):=⟨_,rfl⟩;rw[←hV];obtain⟨lo,AG⟩: ∃lo,lo=m%4294967296:=⟨_,rfl⟩;obtain⟨hi,sP⟩: ∃hi,hi=m/4294967296:=⟨_,rfl⟩;have q1:(m:Int)%4294967296=(lo:Int):=by omega
 have q2:(m:Int)/4294967296=(hi:Int):=by omega
 have q3:IntKind.u32.wrap (m:Int)=(lo:Int):=by rw[qT];omega
 have q4:IntKind.u32.wrap (hi:Int)=(hi:Int):=by rw[qT];omega
 have q5:(hi:Int)%4294967296=(hi:Int):=by omega
 have uW:jl (w.alloc (.cells #[.int .u32 (lo:Int),.int .u32 (hi:Int)] 184)) w.heap.size (.slice (some ⟨w.heap.size,0,none⟩) 2 2) [lo,hi]:=yr (e:=184) (size:=1) w #[.int .u32 (lo:Int),.int .u32 (hi:Int)] 2 (aS _) (by unfold maxLen;omega) rfl;have aY:=(aU w.heap.size w).alloc (aS _) (.cells #[.int .u32 (lo:Int),.int .u32 (hi:Int)] 184);have lq:aE [lo,hi]=m:=by show lo+4294967296*(hi+4294967296*0)=m;rw[mZ,iz];omega
 have cH:eu [lo,hi]:=fun d hd=>by
  simp only[gL,ll,iX]at hd;rcases hd with rfl|rfl<;>omega
 have HP:=ae (zj (w.alloc (.cells #[.int .u32 (lo:Int),.int .u32 (hi:Int)] 184)) _ vd [lo,hi] ds uW.r (hd.below aY) cH hdo (by simp) (by omega));have cF:=ae aY;have HV:=ae hV;have HVL:=ae lq;have HN:=ae (And.intro hn (And.intro ti (And.intro qI hdo)));clear uW aY lq cH hV hn hd ti hdo qI AG sP;go_enter func142,ntmps142;go_wp2_with fail;have hp:Calls prog 130 #[.slice (some ⟨w.heap.size,0,none⟩) 2 2,vd] (w.alloc (.cells #[.int .u32 (lo:Int),.int .u32 (hi:Int)] 184)) (ik (w.alloc (.cells #[.int .u32 (lo:Int),.int .u32 (hi:Int)] 184)) (aE [lo,hi]*aE ds)):=HP;refine hp.mono ?_;rintro e' w2 ⟨⟨v2,es,rfl,f1,f2,f3,f4⟩,hb⟩;have Xh:Below w.heap.size w w2:=cF.trans (hb.mono cF.size);rw[HVL.out]at f2;have Xr:es.length≤ds.length+2:=by
  apply mH f3;have h1:=pN ds HN.2.2.2;rw[f2,A8,dV];exact Ei (by omega) h1
 have HA:=ae (And.intro f1 (And.intro f2 (And.intro f3 f4)));have HB:=ae Xh;have HL:=ae Xr;clear f1 f2 f3 f4 hb Xh Xr;by_cases h0:0≤e
 ·have p1:((0:Int)≤e)=True:=aD h0;obtain⟨k,hk⟩: ∃k:Nat,e=(k:Int):=⟨e.toNat,by omega⟩;subst hk;go_wp2_with fail;have hs:Calls prog 153 #[v2,.int .i64 (k:Int)] w2 (ik w2 (aE es*2^k)):=zf w2 v2 es k HA.1.r HA.2.2.2 (by have:=HL.out;omega) (by omega);refine hs.mono ?_;rintro e' w3 ⟨⟨v3,fs,rfl,g1,g2,g3,g4⟩,gb⟩;have gl:fs.length≤1200000:=bR (OU HA.2.2.2 g2 g3) (by have:=HL.out;omega);have RU:Below w.heap.size w w3:=HB.trans (gb.mono HB.size);have HG:=ae (And.intro g1 (And.intro g2 (And.intro g3 g4)));have HGL:=ae gl;have fZ:=ae RU;clear g1 g2 g3 g4 gb gl RU;go_wp2_with fail;have hc:Calls prog 152 #[v3,vn] w3 fun e w'=>e= .returned (.int .i64 (qF (aE fs) (aE ns)))∧ ∃d,w'=w3.drewN d:=zh w3 v3 vn fs ns HG.1.r (HN.1.below fZ) HG.2.2.2 HN.2.1 HG.2.2.1 HN.2.2.1 (by have:=HGL.out;omega) (by omega)
  refine hc.mono ?_;rintro e' w4 ⟨rfl,d,rfl⟩;have xr:qF (aE fs) (aE ns)=V:=by
   rw[HV.out,H7,az h0,HG.out.2.1,HA.out.2.1,mn]
  rw[xr];go_wp2_with fail;go_ret;exact⟨rfl,bZ fZ d⟩
 ·have p1:((0:Int)≤e)=False:=bT h0;obtain⟨k,hk⟩: ∃k:Nat,e= -(k:Int):=⟨(-e).toNat,by omega⟩;subst hk;have q6:(-(-(k:Int)))=(k:Int):=by omega
  go_wp2_with fail;have hs:Calls prog 153 #[vn,.int .i64 (k:Int)] w2 (ik w2 (aE ns*2^k)):=zf w2 vn ns k (HN.1.below HB) HN.2.1 (by omega) (by omega);refine hs.mono ?_;rintro e' w3 ⟨⟨v3,fs,rfl,g1,g2,g3,g4⟩,gb⟩;have gl:fs.length≤1200000:=bR (OU HN.2.1 g2 g3) (by omega);have RU:Below w.heap.size w w3:=HB.trans (gb.mono HB.size);have ha3:pA w3 v2 es:=HA.1.r.below gb;have HG:=ae (And.intro g1 (And.intro g2 (And.intro g3 g4)));have HGL:=ae gl;have fZ:=ae RU;have HA3:=ae ha3;clear g1 g2 g3 g4 gb gl RU ha3;go_wp2_with fail;have hc:Calls prog 152 #[v2,v3] w3 fun e w'=>e= .returned (.int .i64 (qF (aE es) (aE fs)))∧ ∃d,w'=w3.drewN d:=zh w3 v2 v3 es fs HA3 HG.1.r HA.2.2.2 HG.2.2.2 HA.2.2.1 HG.2.2.1 (by have:=HL.out;omega) (by have:=HGL.out;omega)
  refine hc.mono ?_;rintro e' w4 ⟨rfl,d,rfl⟩;have xr:qF (aE es) (aE fs)=V:=by
   rw[HV.out,H7,ah (by omega),HG.out.2.1,HA.out.2.1,Int.neg_neg,mn]
  rw[xr];go_wp2_with fail;go_ret;exact⟨rfl,bZ fZ d⟩
theorem uz (a b:Nat):(qF a b= -1∧a<b)∨(qF a b=0∧a=b)∨(qF a b=1∧b<a):=by
 unfold qF;by_cases h:a<b
 ·rw[az h];exact Or.inl ⟨rfl,h⟩
 ·rw[ah h];by_cases h2:b<a
  ·rw[az h2];exact Or.inr (Or.inr ⟨rfl,h2⟩)
  ·rw[ah h2];exact Or.inr (Or.inl ⟨rfl,by omega⟩)
theorem Gp:qF a b≤0↔a≤b:=by
 rcases uz a b with⟨h,h2⟩|⟨h,h2⟩|⟨h,h2⟩<;>rw[h]<;>constructor<;>intro _<;>omega
theorem E6 (m:Nat) (e:Int) (N D:Nat):H7 m e N D= -1∨H7 m e N D=0∨H7 m e N D=1:=by
 unfold H7;split
 ·rcases uz (m*D*2^e.toNat) N with h|h|h
  ·exact Or.inl h.1
  ·exact Or.inr (Or.inl h.1)
  ·exact Or.inr (Or.inr h.1)
 ·rcases uz (m*D) (N*2^(-e).toNat)with h|h|h
  ·exact Or.inl h.1
  ·exact Or.inr (Or.inl h.1)
  ·exact Or.inr (Or.inr h.1)
theorem L3 (hb:b<eY):Dm b<9007199254740992:=by
 unfold Dm;unfold eY at hb;split<;>omega
theorem L4 (hb:b<eY): -1074≤AJ b∧AJ b≤971:=by
 unfold AJ;unfold eY at hb;split<;>omega
theorem ac3 {e:Nat} (hM:M<9007199254740992) (he:e≤a+1):M*2^e≤(2^54-1)*2^a:=by
 have h1:(2:Nat)^e≤2^(a+1):=dZ (by decide) he;have h2:=ov (Nat.le_of_lt_succ hM) h1;rw[show (2:Nat)^(a+1)=2^a*2 from ep (n:=2) (m:=a)]at h2;generalize (2:Nat)^a=X at h2 ⊢
 omega
theorem E7 {e:Nat} (hM:M<9007199254740992) (he:e≤971):M*2^e≤o0:=by
 unfold o0;generalize h:(970:Nat)=a;exact ac3 hM (by omega)
theorem YO (hb:b<eY) (h:o0*D≤N):H7 (Dm b) (AJ b) N D≤0:=by
 have h1:=L3 hb;have h2:=(L4 hb).2;unfold H7;split
 ·rename_i h0;rw[Gp,cg,fx D,←cg];exact bR (fg D (E7 h1 (by omega))) h
 ·rename_i h0;rw[Gp];have h3:=E7 (e:=0) h1 (by omega);rw[o9,oj]at h3;have h4:N*1≤N*2^(-AJ b).toNat:=tZ N (eZ (by decide));rw[oj]at h4;exact bR (fg D h3) (bR h h4)
theorem ac4 (N D:Nat):H7 (2*Dm 9218868437227405311+1) (AJ 9218868437227405311-1) N D≤0↔o0*D≤N:=by
 have h1:Dm 9218868437227405311=9007199254740991:=by decide
 have h2:AJ 9218868437227405311=971:=by decide
 rw[h1,h2];unfold H7;rw[az (by decide),Gp,show ((971:Int)-1).toNat=970 by decide];unfold o0;generalize (970:Nat)=a;rw[cg,fx D,←cg]
def rH (w:World) (N D:Nat) (e:Ending) (w':World):Prop:=
 ∃b:Nat,e= .returned (.int .u64 (b:Int))∧b≤eY∧(eY≤b↔o0*D≤N)∧Below w.heap.size w w'
theorem Gq (h:lo<eY) (ho:o0*D≤N→lo=9218868437227405311) (hT:lo=9218868437227405311→(A≤0↔o0*D≤N)) (hA:A≤0) (hb:Below w.heap.size w w'):
  rH w N D (.returned (.int .u64 ((lo:Int)+1))) w':=by
 refine⟨lo+1,rfl,h,?_,hb⟩;unfold eY at h ⊢
 constructor
 ·intro h1;have h2:lo=9218868437227405311:=by omega
  exact(hT h2).mp hA
 ·intro h1;have:=ho h1;omega
theorem Gr (h:lo<eY) (ho:o0*D≤N→lo=9218868437227405311) (hT:lo=9218868437227405311→(A≤0↔o0*D≤N)) (hA:A≤0→ ¬lo%2=1) (hb:Below w.heap.size w w'):
  rH w N D (.returned (.int .u64 (lo:Int))) w':=by
 refine⟨lo,rfl,jk h,?_,hb⟩;constructor
 ·intro h1;omega
 ·intro h1;have h2:=ho h1;have h3:=(hT h2).mpr h1;exact absurd (by rw[h2]) (hA h3)
theorem zp (w:World) (vn vd:Value) (ns ds:List Nat) (hn:pA w vn ns) (hd:pA w vd ds) (ti:eu ns) (hdo:eu ds) (qI:Norm ns) (Lv:ns.length≤1000000) (Pu:ds.length≤1000000):
  Calls prog 131 #[vn,vd] w (rH w (aE ns) (aE ds)):=by
 have HN:=ae (And.intro hn (And.intro ti (And.intro qI (And.intro hdo hd))));clear hn ti qI hdo hd;go_enter func131,ntmps131;go_wp2_with fail;go_loopw [5,6,7,8,9] (fun t5 t6 t7 t8 t9 wr=> ∃(lo hi:Nat),Hid (lo≤hi∧hi<eY∧(o0*aE ds≤aE ns→hi=9218868437227405311)∧Below w.heap.size w wr)∧t5= .int .u64 (lo:Int)∧t6= .int .u64 (hi:Int)) (fun t5 t6 _ _ _ _=>(intOf t6).toNat-(intOf t5).toNat)
 case atStart=>exact⟨0,9218868437227405311,ae ⟨by decide,by decide,fun _=>rfl,aU _ _⟩,rfl,rfl⟩
 case round=>
  obtain⟨lo,hi,HI,rfl,rfl⟩:=hrel;by_cases aA:lo<hi
  ·have p1:((lo:Int)<(hi:Int))=True:=aD (by omega);have sP:hi<9218868437227405312:=HI.2.1;obtain⟨mid,XS⟩: ∃m:Nat,m=lo+(hi-lo+1)/2:=⟨_,rfl⟩;have q1:((lo:Int)+((hi:Int)-(lo:Int)+1)/2)=(mid:Int):=by omega
   have m1:lo<mid:=by omega
   have m2:mid≤hi:=by omega
   clear XS;have hmi:mid<eY:=o7 m2 HI.2.1;go_wp2_with fail;refine(E5 wr mid (by omega)).mono ?_;rintro e' w1 ⟨rfl,hw⟩;subst w1;have hM:=ae (L3 hmi);have hE:=ae (L4 hmi);have hA:=ae (E6 (Dm mid) (AJ mid) (aE ns) (aE ds));have hO:=ae (fun h:o0*aE ds≤aE ns=>YO hmi h);have ha:Calls prog 142 #[.int .u64 (Dm mid:Int),.int .i64 (AJ mid),vn,vd] wr fun e' w'=>e'= .returned (.int .i64 (H7 (Dm mid) (AJ mid) (aE ns) (aE ds)))∧Below wr.heap.size wr w':=
    zn wr (Dm mid) (AJ mid) vn vd ns ds (by have:=hM.out;omega) (by have:=hE.out;omega) (by have:=hE.out;omega) (HN.1.below HI.2.2.2) (HN.2.2.2.2.below HI.2.2.2) HN.2.1 HN.2.2.2.1 HN.2.2.1 Lv Pu
   have HW:=ae ha;clear ha hmi;generalize H7 (Dm mid) (AJ mid) (aE ns) (aE ds)=A at HW hA hO;generalize Dm mid=M at HW hM ⊢
   generalize AJ mid=E at HW hE ⊢
   go_wp2_with fail;refine HW.mono ?_;rintro e' w2 ⟨rfl,hb⟩;have HB:=ae (HI.2.2.2.trans (hb.mono HI.2.2.2.size));clear hb;by_cases hle:A≤0
   ·have p2:(A≤0)=True:=aD hle;go_wp2_with fail;exact⟨⟨mid,hi,ae ⟨m2,HI.2.1,HI.2.2.1,HB⟩,rfl,rfl⟩,by show hi-mid<hi-lo;omega⟩
   ·have p2:(A≤0)=False:=bT hle;go_wp2_with fail;have q3:((mid:Int)-1)=((mid-1:Nat):Int):=by omega
    rw[q3];exact⟨⟨lo,mid-1,ae ⟨by omega,by have:=HI.2.1;omega,fun h=>absurd (hO h) (Int.not_le.mpr hle),HB⟩,rfl,rfl⟩,by show (mid-1)-lo<hi-lo;omega⟩
  ·have p1:((lo:Int)<(hi:Int))=False:=bT (by omega);have sP:hi<9218868437227405312:=HI.2.1;have hlh:lo=hi:=by have:=HI.1;omega
   subst hlh;go_wp2_with fail;refine(E5 wr lo (by omega)).mono ?_;rintro e' w1 ⟨rfl,hw⟩;subst w1;have hM:=ae (L3 sP);have hE:=ae (L4 sP);have hA:=ae (E6 (2*Dm lo+1) (AJ lo-1) (aE ns) (aE ds));have hT:=ae (fun h:lo=9218868437227405311=>(by subst h;exact ac4 (aE ns) (aE ds):H7 (2*Dm lo+1) (AJ lo-1) (aE ns) (aE ds)≤0↔o0*aE ds≤aE ns));have ha:Calls prog 142 #[.int .u64 ((2*Dm lo+1:Nat):Int),.int .i64 (AJ lo-1),vn,vd] wr fun e' w'=>e'= .returned (.int .i64 (H7 (2*Dm lo+1) (AJ lo-1) (aE ns) (aE ds)))∧Below wr.heap.size wr w':=
    zn wr (2*Dm lo+1) (AJ lo-1) vn vd ns ds (by have:=hM.out;omega) (by have:=hE.out;omega) (by have:=hE.out;omega) (HN.1.below HI.2.2.2) (HN.2.2.2.2.below HI.2.2.2) HN.2.1 HN.2.2.2.1 HN.2.2.1 Lv Pu
   have HW:=ae ha;clear ha;generalize H7 (2*Dm lo+1) (AJ lo-1) (aE ns) (aE ds)=A at HW hA hT;generalize Dm lo=M at HW hM ⊢
   generalize AJ lo=E at HW hE ⊢
   have bM:M<9007199254740992:=hM;have bE:=hE.out;go_wp2_with fail;have ha2:Calls prog 142 #[.int .u64 (2*(M:Int)+1),.int .i64 (E-1),vn,vd] wr fun e' w'=>e'= .returned (.int .i64 A)∧Below wr.heap.size wr w':=HW
   refine ha2.mono ?_;rintro e' w2 ⟨rfl,hb⟩;have HB:=ae (HI.2.2.2.trans (hb.mono HI.2.2.2.size));clear hb ha2;by_cases XQ:lo%2=1
   ·have p2:((lo:Int)%2=1)=True:=aD (by omega);have p3:(((lo:Int)%2)==1)=true:=by rw[cx];omega
    rcases hA.out with rfl|rfl|rfl
    all_goals (go_wp2_with fail)
    ·go_ret;exact Gq sP HI.2.2.1 hT (by decide) HB
    ·go_ret;exact Gq sP HI.2.2.1 hT (by decide) HB
    ·go_ret;exact Gr sP HI.2.2.1 hT (fun h=>absurd h (by decide)) HB
   ·have p2:((lo:Int)%2=1)=False:=bT (by omega);have p3:(((lo:Int)%2)==1)=false:=by rw[bN];omega
    rcases hA.out with rfl|rfl|rfl
    all_goals (go_wp2_with fail)
    ·go_ret;exact Gq sP HI.2.2.1 hT (by decide) HB
    ·go_ret;exact Gr sP HI.2.2.1 hT (fun _=>XQ) HB
    ·go_ret;exact Gr sP HI.2.2.1 hT (fun _=>XQ) HB
theorem uA:Ieee.double.signWeight=9223372036854775808∧Ieee.double.infRung=9218868437227405312∧Ieee.double.binade=4503599627370496∧Ieee.double.leastPlace= -1074∧Ieee.double.fractionBits=52:=by decide+kernel
theorem log2_lt (h:m<2^(k+1)):m.log2≤k:=by
 rcases jL m with h0|h0
 ·rw[h0];simp
 ·have h1:=Nat.log2_self_le (n:=m) (by omega);rcases dE k m.log2 with hh|hh
  ·have:2^(k+1)≤2^m.log2:=dZ (by omega) hh;omega
  ·exact hh
theorem BO {w:Nat} (hk:k≤1000) (h:w≤(1023+k)*4503599627370496): ∃m e,Ieee.double.read w= .number false m e∧(m.log2:Int)+e≤k:=by
 obtain⟨hs,hi,hb,hp,_⟩:=uA;have e1:w/9223372036854775808=0:=tp (by omega);have e2:w%9223372036854775808=w:=s5 (by omega);unfold Ieee.Format.read;rw[hs,hi,hb,hp,e1,e2];simp only[Nat.zero_mod];split
 ·rename_i aA;have:=log2_lt (m:=w) (k:=51) (by omega);exact⟨_,_,rfl,by omega⟩
 ·rw[az (by omega)];have:=log2_lt (m:=4503599627370496+w%4503599627370496) (k:=52) (by omega);exact⟨_,_,rfl,by omega⟩
theorem ac5 (h:n<2^(53+drop)):Ieee.Toward.even.cut false n drop≤9007199254740992:=by
 have e53:(2:Nat)^53=9007199254740992:=by decide
 unfold Ieee.Toward.cut;simp only[Nat.one_shiftLeft];have hb (b:Bool):b.toNat≤1:=by cases b<;>decide
 rcases dE (n.log2+2) drop with hd|hd
 ·rw[qi (by omega)];have h2:=A3 (n:=n);have h3:n/2^(n.log2+2)=0:=tp (iv h2 (dZ (by omega) (by omega)));rw[h3];have:=hb (decide (2^(n.log2+2)<2*(n%2^(n.log2+2)))||2^(n.log2+2)==2*(n%2^(n.log2+2))&&0%2==1);omega
 ·rw[mS hd];have h3:n/2^drop<2^53:=by
   rw[zJ (eZ (by omega)),←dV];exact h
  have:=hb (decide (2^drop<2*(n%2^drop))||2^drop==2*(n%2^drop)&&n/2^drop%2==1);omega
theorem rP (h:(m.log2:Int)+e≤k):Ieee.double.nearest false m e≤(1024+k)*4503599627370496:=by
 obtain⟨hs,hi,hb,hp,hf⟩:=uA;unfold Ieee.Format.nearest;split
 ·simp[Ieee.Format.word]
 ·rw[hi,hb,hp,hf];simp only[Ieee.Format.word,lk,iw];obtain⟨last,hl⟩: ∃last:Int,last=max (e+(m.log2:Int)-((52:Nat):Int)) (-1074):=⟨_,rfl⟩;rw[←hl];have hm:=A3 (n:=m);have hc:Ieee.Toward.even.cut false (m<<<(e-last).toNat) (last-e).toNat≤9007199254740992:=by
   apply ac5;rw[Nat.shiftLeft_eq];have h1:m*2^(e-last).toNat<2^(m.log2+1)*2^(e-last).toNat:=qB hm (eZ (by omega));rw[←dV]at h1;exact iv h1 (dZ (by omega) (by omega))
  refine bR (Nat.min_le_left _ _) ?_;have h5:(last+1074).toNat≤1022+k:=by omega
  have h6:(last- -1074).toNat=(last+1074).toNat:=by omega
  rw[h6];have h7:(last+1074).toNat*4503599627370496≤(1022+k)*4503599627370496:=fg _ h5;generalize Ieee.Toward.even.cut false (m<<<(e-last).toNat) (last-e).toNat=c at hc ⊢
  have h8:(1024+k)*4503599627370496=(1022+k)*4503599627370496+9007199254740992:=by rw[show 1024+k=(1022+k)+2 by omega,ow]
  rw[h8];exact Nat.add_le_add h7 hc
theorem U9:(m*n).log2≤m.log2+n.log2+1:=by
 have h1:=A3 (n:=m);have h2:=A3 (n:=n);apply log2_lt;have:m*n<2^(m.log2+1)*2^(n.log2+1):=Ei h1 h2;rw[←dV]at this;exact iv this (dZ (by omega) (by omega))
theorem OV (ha:a≤1000) (hb:b≤1000) (hx:x≤(1023+a)*4503599627370496) (hy:y≤(1023+b)*4503599627370496):u9 x y≤(1023+(a+b+2))*4503599627370496:=by
 obtain⟨m,i,hm,td⟩:=BO ha hx;obtain⟨n,j,hn,xd⟩:=BO hb hy;have LA:floatBits .mul .f64 x y=((Ieee.double.read x).product (Ieee.double.read y)).map Ieee.double.write:=rfl;unfold u9;rw[LA,hm,hn];show Ieee.double.nearest (false^^false) (m*n) (i+j)≤_;have h3:=U9 (m:=m) (n:=n);have:=rP (m:=m*n) (e:=i+j) (k:=a+b+1) (by omega);rw[show 1023+(a+b+2)=1024+(a+b+1)by omega];exact this
theorem Gs: ∀k,k<23→fi k≤(1023+74)*4503599627370496∧(match Ieee.double.read (fi k)with| .number false n j=>decide (n≠0)&&decide (0≤(n.log2:Int)+j)|_=>false)=true:=by decide+kernel
theorem YP (ha:a≤1000) (hx:x≤(1023+a)*4503599627370496) (hk:k<23):FQ x (fi k)≤(1023+(a+1))*4503599627370496:=by
 obtain⟨m,i,hm,td⟩:=BO ha hx;have hp:=(Gs k hk).2;have LA:floatBits .quo .f64 x (fi k)=((Ieee.double.read x).quotient (Ieee.double.fractionBits+2) (Ieee.double.read (fi k))).map Ieee.double.write:=rfl;unfold FQ;rw[LA,hm];split at hp
 ·rename_i n j hn;simp only[kH,ua]at hp;rw[hn];simp only[Ieee.Datum.quotient,ah hp.1];obtain⟨more,ο⟩: ∃more,more=Ieee.double.fractionBits+2+n.log2-m.log2:=⟨_,rfl⟩;rw[←ο];have hf:Ieee.double.fractionBits=52:=rfl;rw[hf]at ο;show Ieee.double.nearest (false^^false) (2*(m<<<more/n)+(m<<<more%n != 0).toNat) (i-j-more-1)≤_;have hq:(2*(m<<<more/n)+(m<<<more%n != 0).toNat).log2≤m.log2+more-n.log2+1:=by
   apply log2_lt;have h1:=A3 (n:=m);have h2:=Nat.log2_self_le (n:=n) hp.1;have h3:m<<<more<2^(m.log2+1+more-n.log2)*n:=by
    rw[Nat.shiftLeft_eq];have h4:m*2^more<2^(m.log2+1)*2^more:=qB h1 (eZ (by omega));have h5:2^(m.log2+1)*2^more=2^(m.log2+1+more-n.log2)*2^n.log2:=by rw[←dV,←dV];congr 1;omega
    have h6:2^(m.log2+1+more-n.log2)*2^n.log2≤2^(m.log2+1+more-n.log2)*n:=tZ _ h2;omega
   have h7:m<<<more/n<2^(m.log2+1+more-n.log2):=(zJ (by omega)).2 h3;have h8:(m<<<more%n != 0).toNat≤1:=by cases (m<<<more%n != 0)<;>decide
   have h9:(2:Nat)^(m.log2+more-n.log2+1+1)=2*2^(m.log2+1+more-n.log2):=by rw[←A7];congr 1;omega
   rw[h9];omega
  have:=rP (m:=2*(m<<<more/n)+(m<<<more%n != 0).toNat) (e:=i-j-more-1) (k:=a) (by omega);rw[show 1023+(a+1)=1024+a by omega];exact this
 ·cases hp
theorem Va (h:m<4503599627370496):floatOfInt .f64 (m:Int)≤(1023+52)*4503599627370496:=by
 have hd:floatOfInt .f64 (m:Int)=Ieee.double.nearest (decide ((m:Int)<0)) m 0:=rfl;rw[hd,gj (by omega)];have:=log2_lt (m:=m) (k:=51) (by omega);exact rP (k:=51) (by omega)
theorem Na (h:fJ m p=some x):dQ x=false∧m<4503599627370496∧p≤37:=by
 unfold fJ at h;by_cases h0:m/4503599627370496≠0
 ·rw[az h0]at h;cases h
 ·rw[ah h0]at h;have hm:m<4503599627370496:=by omega
  have hf:=Va hm;have fin: ∀{k w:Nat},k≤1000→w≤(1023+k)*4503599627370496→dQ w=false:=fun hk hw=>kg (by show _<9218868437227405312;omega)
  by_cases h1:p=0
  ·rw[az h1]at h;injection h with h
   subst h;exact⟨fin (by omega) hf,hm,by omega⟩
  ·rw[ah h1]at h;by_cases h2:0<p∧p≤37
   ·rw[az h2]at h;refine⟨?_,hm,h2.2⟩;obtain⟨z,hz⟩: ∃z,z=(if 22<p then u9 (floatOfInt .f64 (m:Int)) (fi (p-22).toNat)else floatOfInt .f64 (m:Int)):=⟨_,rfl⟩;rw[←hz]at h;have ZN:z≤(1023+128)*4503599627370496:=by
     rw[hz];split
     ·have h9:=OV (a:=52) (b:=74) (by omega) (by omega) hf (Gs (p-22).toNat (by omega)).1;exact h9
     ·omega
    split at h
    ·cases h
    ·injection h with h
     rw[←h];refine fin (k:=128+74+2) (by omega) (OV (by omega) (by omega) ZN (Gs _ ?_).1);split<;>omega
   ·rw[ah h2]at h;split at h
    ·rename_i h3;injection h with h
     rw[←h];exact⟨fin (k:=52+1) (by omega) (YP (by omega) hf (by omega)),hm,by omega⟩
    ·cases h
theorem QP (h:x≤eY) (he:FloatKind.f64.format.order x eY=some .eq):x=eY:=by
 rcases dE x eY with aA|lW
 ·exfalso;have h1:x<9218868437227405312:=aA;have hi:Ieee.double.read eY= .infinity false:=by decide+kernel
  have he':(Ieee.double.read x).order (Ieee.double.read eY)=some .eq:=he;rw[hi]at he';obtain⟨hs,hir,hb,hp,_⟩:=uA;have e1:x/9223372036854775808=0:=tp (by omega);have e2:x%9223372036854775808=x:=s5 (by omega);have hr: ∃m e,Ieee.double.read x= .number false m e:=by
   unfold Ieee.Format.read;rw[hs,hir,hb,hp,e1,e2];simp only[Nat.zero_mod];split
   ·exact⟨_,_,rfl⟩
   ·exact⟨_,_,rfl⟩
  obtain⟨m,e,hr⟩:=hr;rw[hr]at he';simp[Ieee.Datum.order]at he'
 ·omega
def gS (N:Nat) (X:Int):Prop:=o0*10^(-X).toNat≤N*10^X.toNat
theorem Tv (h: -X≤K):gS N X↔o0*10^K≤N*10^(X+K).toNat:=by
 unfold gS;have hP:0<10^(K-(-X).toNat):=eZ (by omega);have e1:10^K=10^(-X).toNat*10^(K-(-X).toNat):=by rw[←dV];congr 1;omega
 have e2:10^(X+K).toNat=10^X.toNat*10^(K-(-X).toNat):=by rw[←dV];congr 1;omega
 rw[e1,e2,←cg,←cg,yk hP]
theorem Ay (h:N≤M) (ho:gS N X):gS M X:=bR ho (fg _ h)
theorem rI:gS (m*10^c) X↔gS m (X+c):=by
 rw[Tv (N:=m*10^c) (K:=(-X).toNat) (by omega),Tv (N:=m) (K:=(-X).toNat) (by omega),cg,←dV];rw[show c+(X+((-X).toNat:Int)).toNat=(X+c+((-X).toNat:Int)).toNat by omega]
theorem ac6:10^308≤o0:=by decide+kernel
theorem ac7:o0≤10^309:=by decide+kernel
theorem L5 (h:10^a≤N) (hx:309≤X+a):gS N X:=by
 refine Ay h ?_;have:=(rI (m:=1) (c:=a) (X:=X)).2;rw[Bb]at this;apply this;unfold gS;rw[show (-(X+(a:Int))).toNat=0 by omega,o9,oj,Bb];exact bR ac7 (Ol 309 _ (by omega))
theorem oG (h:N≤10^a) (hx:X+a≤307): ¬gS N X:=by
 intro ho;have h1:=Ay h ho;have h2:=(rI (m:=1) (c:=a) (X:=X)).1;rw[Bb]at h2;have h3:=h2 h1;unfold gS at h3;rw[Bb]at h3;have h4:=ac6;have h5:=Ol (X+(a:Int)).toNat 307 (by omega);have h6:o0*1≤o0*10^(-(X+(a:Int))).toNat:=tZ _ (eZ (by decide));have h7:=aeJ 307 308 rfl;rw[h7]at h4;have h8:=abT 307;generalize (10:Nat)^307=Q at h4 h5 h8;generalize (10:Nat)^(X+(a:Int)).toNat=R at h3 h5;omega
theorem OW: ¬gS 0 X:=by
 unfold gS;rw[yB];have h1:0<o0:=by decide+kernel
 have h2:0<10^(-X).toNat:=eZ (by decide);have:=Nat.mul_pos h1 h2;omega
theorem nI (h:k<l.length):dF l (k+1)=jT (dF l k) (au l k):=by
 have:l[k]=au l k:=by rw[au,lf,lJ h];rfl
 rw[dF,jO h,yq,this];rfl
structure Rel (l:List UInt8) (k:Nat):Prop where
 nd:(fl l k).nd=(dP l k).nd
 dp:(fl l k).dp=(dP l k).dp
 dot:(fl l k).dot=(dP l k).dot
 pt:(dF l k).Bg=(dP l k).dot
 th:(fl l k).th=min (dP l k).nd 19
 num:dn (dP l k).D (dP l k).nd=(dF l k).n
 beh:(dP l k).dot=true→(dP l k).dp=(dP l k).nd-((dF l k).behind:Int)
 are:(dP l k).dot=false→(dF l k).behind=0
 fk: ∃r,(dF l k).n=(fl l k).fk*10^((dP l k).nd-min (dP l k).nd 19)+r∧r<10^((dP l k).nd-min (dP l k).nd 19)∧((fl l k).tr=false→r=0)
 pos:0<(dP l k).nd→0<(fl l k).fk
 zer:(dP l k).nd=0→(fl l k).fk=0
theorem TX {l:List UInt8} {m:Nat} (h:lu l m): ∀k,k≤m→Rel l k
 |0,_=>⟨rfl,rfl,rfl,rfl,rfl,rfl,(fun h=>by cases h),(fun _=>rfl),⟨0,rfl,eZ (by decide),fun _=>rfl⟩,(fun h=>by simp[l9,ds0]at h),fun _=>rfl⟩
 |k+1,hk=>by
  have hl:=h.1;obtain⟨i1,i2,i3,i4,i5,i6,i7,i8,⟨r,i9,i10,i11⟩,i12,i13⟩:=TX h k (by omega);have hc:=h.2 k (by omega);have FX:=Bz (l:=l) k (by omega);have e1:=im (l:=l) (k:=k) (by omega);have e2:=ma (l:=l) (k:=k) (by omega);have e3:=nI (l:=l) (k:=k) (by omega);generalize au l k=c at hc e1 e2 e3;generalize fl l k=R at*
  generalize dP l k=D at*
  generalize dF l k=M at*
  obtain⟨Rm,arf,uX,Rdp,arh,ak3,Rtr⟩:=R;obtain⟨DD,Dnd,Ddp,ari⟩:=D;obtain⟨Mn,Mb,Mp⟩:=M;simp only at*
  subst i1 i2 i3 i4 i5;by_cases od:c.toNat=46
  ·have hd:Mp=false:=by
    rcases hc with hc|hc
    ·have:=aJ hc;omega
    ·exact FX fun j hj=>hc.2 j hj
   have f1:fl l (k+1)=⟨Rm,min uX 19,uX,uX,true,ak3,Rtr⟩:=by rw[e1,gE,az od]
   have f2:dP l (k+1)=⟨DD,uX,uX,true⟩:=by rw[e2,lv,az od]
   have f3:dF l (k+1)=⟨Mn,Mb,true⟩:=by rw[e3,jT,az od]
   have hb:=i8 hd;refine⟨?_,?_,?_,?_,?_,?_,?_,?_,?_,?_,?_⟩<;>simp only[f1,f2,f3]
   ·exact i6
   ·intro _;omega
   ·intro h;cases h
   ·exact⟨r,i9,i10,i11⟩
   ·exact i12
   ·exact i13
  ·have qw:=aJ (hc.resolve_right fun h=>od h.1);by_cases hz:c.toNat=48∧uX=0
   ·obtain⟨de,rfl⟩:=hz;have f1:fl l (k+1)=⟨Rm,min 0 19,0,Rdp-1,Mp,true,Rtr⟩:=by rw[e1,gE,ah od,az ⟨de,rfl⟩]
    have f2:dP l (k+1)=⟨DD,0,Rdp-1,Mp⟩:=by rw[e2,lv,ah od,az ⟨de,rfl⟩]
    have f3:dF l (k+1)=⟨Mn*10+(c.toNat-48),if Mp=true then Mb+1 else Mb,Mp⟩:=by rw[e3,jT,ah od]
    have hM:Mn=0:=by rw[←i6];rfl
    have hRm:=i13 rfl;refine⟨?_,?_,?_,?_,?_,?_,?_,?_,?_,?_,?_⟩<;>simp only[f1,f2,f3]
    ·rw[hM,de];rfl
    ·intro hp;have:=i7 hp;rw[az hp];omega
    ·intro hp;rw[hp];exact i8 hp
    ·refine⟨0,?_,by decide,fun _=>rfl⟩;rw[hM,de,hRm];rfl
    ·intro h;omega
    ·intro _;exact hRm
   ·have f2:dP l (k+1)=⟨Hh DD uX c.toNat,uX+1,Rdp,Mp⟩:=by rw[e2,lv,ah od,ah hz]
    have f3:dF l (k+1)=⟨Mn*10+(c.toNat-48),if Mp=true then Mb+1 else Mb,Mp⟩:=by rw[e3,jT,ah od]
    have zQ:dn (Hh DD uX c.toNat) (uX+1)=Mn*10+(c.toNat-48):=by
     rw[dn,Jn (E:=DD) uX fun i hi=>by unfold Hh;rw[ah (by omega)],i6];unfold Hh;rw[az rfl]
    have S5:Mp=true→(Rdp:Int)=((uX+1:Nat):Int)-((if Mp=true then Mb+1 else Mb:Nat):Int):=by
     intro hp;have:=i7 hp;rw[az hp];omega
    have π:Mp=false→(if Mp=true then Mb+1 else Mb)=0:=by
     intro hp;rw[hp];exact i8 hp
    by_cases h19:min uX 19<19
    ·have aA:uX<19:=by omega
     have hm0:uX-min uX 19=0:=by omega
     have f1:fl l (k+1)=⟨Rm*10+(c.toNat-48),min uX 19+1,uX+1,Rdp,Mp,true,Rtr⟩:=by rw[e1,gE,ah od,ah hz,az h19]
     rw[hm0,o9]at i9 i10;have hr0:r=0:=by omega
     refine⟨?_,?_,?_,?_,?_,?_,?_,?_,?_,?_,?_⟩<;>simp only[f1,f2,f3]
     ·omega
     ·exact zQ
     ·exact S5
     ·exact π
     ·refine⟨0,?_,eZ (by decide),fun _=>rfl⟩;rw[show uX+1-min (uX+1) 19=0 by omega,o9,i9,hr0];omega
     ·intro _;rcases jL uX with h0|h0
      ·have:c.toNat≠48:=fun h=>hz ⟨h,h0⟩
       omega
      ·have:=i12 h0;omega
     ·intro h;omega
    ·have lW:19≤uX:=by omega
     have f1:fl l (k+1)=⟨Rm,min uX 19,uX+1,Rdp,Mp,true,Rtr||c.toNat != 48⟩:=by rw[e1,gE,ah od,ah hz,ah h19]
     rw[qi lW]at i9 i10;refine⟨?_,?_,?_,?_,?_,?_,?_,?_,?_,?_,?_⟩<;>simp only[f1,f2,f3]
     ·omega
     ·exact zQ
     ·exact S5
     ·exact π
     ·refine⟨r*10+(c.toNat-48),?_,?_,?_⟩
      ·rw[qi (by omega),show uX+1-19=(uX-19)+1 by omega,ep,i9,←cg];generalize Rm*10^(uX-19)=Q;omega
      ·rw[qi (by omega),show uX+1-19=(uX-19)+1 by omega,ep];omega
      ·intro h;simp only[Bool.or_eq_false_iff,Iv]at h;rw[i11 h.1,h.2]
     ·intro _;exact i12 (by omega)
     ·intro h;omega
theorem YQ:10000000000000000000<o0:=by decide+kernel
theorem OX (hd:0<d) (oX:d≤10000000000000000000) (h0: -345≤p) (h1:p≤310):dQ (lp d p)=true↔gS d p:=by
 rw[QO hd oX h0 h1];by_cases hp:0≤p
 ·obtain⟨n,rfl⟩: ∃n:Nat,p=(n:Int):=⟨p.toNat,by omega⟩;rw[mn,←OS];unfold gS;rw[show (-(n:Int)).toNat=0 by omega,o9,oj,mn];exact⟨fun h=>h.2,fun h=>⟨by omega,h⟩⟩
 ·have: ¬gS d p:=oG (a:=19) oX (by omega);constructor
  ·rintro⟨h,_⟩;exact absurd h hp
  ·intro h;exact absurd h this
theorem QQ (hm:lu l (bL l)) (hl:bL l≤512) (he: -100009≤fW l∧fW l≤100009):dQ (LC l)=true↔gS (dF l (bL l)).n (fW l-((dF l (bL l)).behind:Int)):=by
 have hr:=TX hm (bL l) (aS _);have hds:=vP hm (bL l) (aS _);have hrf:=At hm (bL l) (aS _);obtain⟨X,hX⟩: ∃X,X=fW l-((dF l (bL l)).behind:Int):=⟨_,rfl⟩;obtain⟨i1,i2,i3,i4,i5,i6,i7,i8,⟨r,i9,i10,i11⟩,i12,i13⟩:=hr;have tV:(if (dP l (bL l)).dot then(dP l (bL l)).dp else((dP l (bL l)).nd:Int))+fW l-((dP l (bL l)).nd:Int)=X:=by
  cases hd:(dP l (bL l)).dot
  ·have:=i8 hd;simp only[lk,iw];omega
  ·have:=i7 hd;simp only[kK];omega
 have ρ:dQ 0=false:=kg (by decide);rw[←hX];unfold LC;obtain⟨d,hd⟩: ∃d,d=(fl l (bL l)).fk:=⟨_,rfl⟩;obtain⟨n,hn⟩: ∃n,n=(dP l (bL l)).nd:=⟨_,rfl⟩;obtain⟨N,hN⟩: ∃N,N=(dF l (bL l)).n:=⟨_,rfl⟩;have arj:d<10000000000000000000:=by
  have h1:=hrf.fk;rw[←hd]at h1;have h2:(10:Nat)^(fl l (bL l)).th≤10^19:=dZ (by decide) hrf.th.1;have h3:(10:Nat)^19=10000000000000000000:=by decide
  omega
 rw[←hn]at i1 i5 i6 i9 i10 i12 i13 tV;rw[←hN]at i6 i9 ⊢
 rw[←hd]at i9 i12 i13 ⊢
 unfold Dt;by_cases h0:d=0
 ·rw[az h0,ρ];have St:n=0:=by
   rcases jL n with h|h
   ·exact h
   ·have:=i12 h;omega
  have sS:N=0:=by rw[←i6,St];rfl
  rw[sS];exact⟨fun h=>(by cases h),fun h=>absurd h OW⟩
 ·rw[ah h0];obtain⟨c,hc⟩: ∃c,c=n-min n 19:=⟨_,rfl⟩;rw[←hc]at i9 i10;have hp:oz (fl l (bL l)) (fW l)=X+(c:Int):=by
   unfold oz;rw[←hd,az h0,i3,i2,i1,i5];have:((min n 19:Nat):Int)=(n:Int)-c:=by omega
   rw[this];omega
  rw[hp];have low:gS d (X+c)→gS N X:=fun h=>by
   have:=rI.2 h;exact Ay (by rw[i9];omega) this
  have high:gS N X→gS (d+1) (X+c):=fun h=>by
   refine rI.1 (Ay ?_ h);rw[i9,Nat.succ_mul];omega
  by_cases h1:310<X+(c:Int)
  ·rw[az h1,uy];exact⟨fun _=>low (L5 (a:=0) (by omega) (by omega)),fun _=>rfl⟩
  ·rw[ah h1];by_cases h2:X+(c:Int)< -345
   ·rw[az h2,ρ];exact⟨fun h=>(by cases h),fun h=>absurd (high h) (oG (a:=19) (by omega) (by omega))⟩
   ·rw[ah h2];have hpf:=OX (d:=d) (p:=X+c) (by omega) (by omega) (by omega) (by omega);have ak4:=OX (d:=d+1) (p:=X+c) (by omega) (by omega) (by omega) (by omega);cases Hn:(fl l (bL l)).tr
    ·
     rw[ah (by simp)];have hr0:=i11 Hn;have heq:gS N X↔gS d (X+c):=by rw[i9,hr0,iz];exact rI
     cases hex:fJ d (X+c)with
     |none=>
      simp only;rw[hpf,heq]
     |some x=>
      simp only;obtain⟨e1,e2,e3⟩:=Na hex;rw[e1,heq];have h16:(4503599627370496:Nat)≤10^16:=by decide
      exact⟨fun h=>(by cases h),fun h=>absurd h (oG (a:=16) (by omega) (by omega))⟩
    ·rw[az rfl];by_cases ho:(FloatKind.f64.format.order (lp d (X+c)) (lp (d+1) (X+c))==some .eq)=true
     ·rw[az ho,hpf];refine⟨low,fun h=>?_⟩;have h3:=ak4.2 (high h);have hle:=OT (d:=d+1) (p:=X+c) (by omega) (by omega) (by omega) (by omega);have h4:lp (d+1) (X+c)=eY:=by
       rcases dE (lp (d+1) (X+c)) eY with aA|lW
       ·rw[kg aA]at h3;cases h3
       ·omega
      rw[h4]at ho;have h5:=QP (OT (d:=d) (p:=X+c) (by omega) (by omega) (by omega) (by omega)) (by simpa using ho);rw[←hpf,h5];exact uy
     ·rw[ah ho];have St:0<n:=by
       rcases jL n with h|h
       ·exact absurd (i13 h) h0
       ·exact h
      have ok:(Hs l (bL l) (fW l)).Ok:=⟨hds.gK,(by show 0<(dP l (bL l)).nd;omega),(by show (dP l (bL l)).nd≤800;have:=hds.nd;omega)⟩;obtain⟨f1,f2⟩:=U7 ok;rw[f1,f2];have hSd:(Hs l (bL l) (fW l)).dp=X+n:=by
       show (if (dP l (bL l)).dot then(dP l (bL l)).dp else((dP l (bL l)).nd:Int))+fW l=_;rw[←hn];omega
      have hSn:(Hs l (bL l) (fW l)).nd=n:=hn.symm;have Ii:pre (Hs l (bL l) (fW l)).D n n=N:=by rw[TQ _ _ n (aS _)];exact i6
      have ark:n≤512:=by have:=hds.nd;omega
      have ak5:10^(n-1)≤N:=by
       rw[←Ii];have:=lN ok.gK ok.pos (n-1);rw[hSn,Iw St]at this;exact this
      have ak6:N<10^n:=by
       rw[←Ii];have:=xx ok.gK n;rw[hSn]at this;exact this
      have hv:vF (Hs l (bL l) (fW l))=N*10^(800+(X+n).toNat-n):=by rw[vF,hSn,Ii,hSd]
      rw[hSd,hv];have ak7:(2^54-1)*2^970=o0:=by rw[o0]
      rw[ak7];by_cases g1:310<X+(n:Int)
      ·exact⟨fun _=>L5 ak5 (by omega),fun _=>.inl g1⟩
      ·by_cases g2:X+(n:Int)<0
       ·have ti:=oG (jk ak6) (X:=X) (by omega);constructor
        ·rintro(h|⟨h,_⟩)<;>omega
        ·intro h;exact absurd h ti
       ·rw[Tv (N:=N) (X:=X) (K:=800) (by omega),show (X+((800:Nat):Int)).toNat=800+(X+n).toNat-n by omega];constructor
        ·rintro(h|⟨_,_,h⟩)
         ·omega
         ·exact h
        ·intro h;exact .inr ⟨by omega,by omega,h⟩
def kS (l:List UInt8) (k:Nat):Nat:=((l.drop 2).take (k-2)).foldl (fun n c=>n*16+mv c) 0
theorem E8 (l:List UInt8):kS l 2=0:=by simp[kS]
theorem Cw (hj:2≤k) (h:k<l.length):kS l (k+1)=kS l k*16+mv (au l k):=by
 have hk:k-2<(l.drop 2).length:=by simp;omega
 have:(l.drop 2)[k-2]=au l k:=by
  rw[vr,au,lf,lJ h];simp[show 2+(k-2)=k by omega]
 rw[kS,show k+1-2=k-2+1 by omega,jO hk,yq,this];rfl
theorem Vb {c:UInt8} (h:gO c=true) (hc:c.toNat≠48):1≤mv c:=by
 unfold mv;split
 ·rename_i hd;have:=aJ hd;omega
 ·rename_i hd;have:=BE c h (by simpa using hd);omega
theorem QR {c:UInt8} (hc:c.toNat=48):mv c=0:=by
 unfold mv;have:digit c=true:=by simp[digit,hc]
 rw[az this];omega
structure ak8 (l:List UInt8) (k:Nat):Prop where
 th:(eH l k).th=min (eH l k).nd 16
 fk: ∃r,kS l k=(eH l k).fk*16^((eH l k).nd-min (eH l k).nd 16)+r∧r<16^((eH l k).nd-min (eH l k).nd 16)∧((eH l k).tr=false→r=0)∧((eH l k).tr=true→0<r∧16<(eH l k).nd)
 pos:0<(eH l k).nd→16^(min (eH l k).nd 16-1)≤(eH l k).fk
 zer:(eH l k).nd=0→(eH l k).fk=0
theorem YR (h:Eo l m): ∀k,2≤k→k≤m→ak8 l k:=by
 intro k hk;induction k with
 |zero=>omega
 |succ k ih=>
  intro hm;have hl:=h.1;by_cases he:k+1=2
  ·rw[he];refine⟨?_,⟨0,?_,?_,?_,?_⟩,?_,?_⟩<;>simp[BD,E8]
  ·obtain⟨i1,⟨r,i2,i3,i4,i5⟩,i6,i7⟩:=ih (by omega) (by omega);have hx:=h.2 k (by omega) (by omega);have hv:=Gk _ hx;have e1:=mc (l:=l) (k:=k) (by omega) (by omega);have e2:=Cw (l:=l) (k:=k) (by omega) (by omega);have FI:(au l k).toNat=48→mv (au l k)=0:=QR;have Sr:(au l k).toNat≠48→1≤mv (au l k):=Vb hx;generalize au l k=c at*
   generalize eH l k=R at*
   generalize kS l k=N at*
   obtain⟨M,Nm,D,tr⟩:=R;simp only at*
   subst i1;by_cases hz:c.toNat=48∧D=0
   ·have f1:eH l (k+1)=⟨M,min D 16,D,tr⟩:=by rw[e1,nT,az hz]
    obtain⟨de,rfl⟩:=hz;have hM:=i7 rfl;have hN:N=0:=by rw[i2,hM];simp at i3;omega
    refine⟨?_,⟨0,?_,?_,?_,?_⟩,?_,?_⟩<;>simp only[f1,e2]
    ·rw[hN,FI de,hM];rfl
    ·decide
    ·intro _;trivial
    ·intro Hn;have:=(i5 Hn).2;omega
    ·intro h;omega
    ·intro _;exact hM
   ·by_cases h16:min D 16<16
    ·have aA:D<16:=by omega
     have f1:eH l (k+1)=⟨M*16+mv c,min D 16+1,D+1,tr⟩:=by rw[e1,nT,ah hz,az h16]
     rw[show D-min D 16=0 by omega,o9]at i2 i3;have htf:tr=false:=by cases tr;rfl;exact absurd (i5 rfl).2 (by omega)
     refine⟨?_,⟨0,?_,?_,?_,?_⟩,?_,?_⟩<;>simp only[f1,e2]
     ·omega
     ·rw[show D+1-min (D+1) 16=0 by omega,o9,i2];omega
     ·exact eZ (by decide)
     ·intro _;trivial
     ·intro h;rw[htf]at h;cases h
     ·intro _;rw[show min (D+1) 16-1=D by omega];rcases jL D with h0|h0
      ·have:=Sr fun h=>hz ⟨h,h0⟩
       rw[h0,o9];omega
      ·have h1:=i6 h0;rw[show min D 16-1=D-1 by omega]at h1;have h2:16^D=16^(D-1)*16:=by rw[←ep];congr 1;omega
       rw[h2];omega
     ·intro h;omega
    ·have lW:16≤D:=by omega
     have f1:eH l (k+1)=⟨M,min D 16,D+1,tr||c.toNat != 48⟩:=by rw[e1,nT,ah hz,ah h16]
     rw[qi lW]at i2 i3 i6;refine⟨?_,⟨r*16+mv c,?_,?_,?_,?_⟩,?_,?_⟩<;>simp only[f1,e2]
     ·omega
     ·rw[qi (by omega),show D+1-16=(D-16)+1 by omega,ep,i2,←cg];generalize M*16^(D-16)=Q;omega
     ·rw[qi (by omega),show D+1-16=(D-16)+1 by omega,ep];omega
     ·intro h;simp only[Bool.or_eq_false_iff,Iv]at h;rw[i4 h.1,FI h.2]
     ·intro h;simp only[tu,jo,ne_eq]at h;refine⟨?_,by omega⟩;rcases h with h|h
      ·have:=(i5 h).1;omega
      ·have:=Sr h;omega
     ·intro _;rw[qi (by omega)];exact i6 (by omega)
     ·intro h;omega
def xt (Z m s:Nat):Prop:=if m%2=0 then Z=m*2^s else(m-1)*2^s<Z∧Z<(m+1)*2^s
theorem Ju (h:Z=m*2^s):xt Z m s:=by
 unfold xt;have hP:0<2^s:=eZ (by decide);split
 ·exact h
 ·rename_i ho;rw[h];exact⟨qB (by omega) hP,qB (by omega) hP⟩
theorem YS (h:xt Z m s):xt Z (m/2|||m%2) (s+1):=by
 have hP:0<2^s:=eZ (by decide);have e2:(2:Nat)^(s+1)=2*2^s:=by rw[ep,fx]
 unfold xt at h;by_cases he:m%2=0
 ·rw[az he]at h;rw[he,Nat.or_zero];apply Ju;rw[e2,←cg,h,show m/2*2=m by omega]
 ·rw[ah he]at h;have h1:m%2=1:=by omega
  obtain⟨a,ha⟩: ∃a,a=m/2:=⟨_,rfl⟩;have hm:m=2*a+1:=by omega
  rw[h1,←ha];have ho:=kh a;have hle:=j0 a;have lW:=j6 a;unfold xt;rw[ah (by omega),e2];rw[hm]at h;obtain⟨g1,g2⟩:=h;generalize 2^s=P at*
  have h3:((a|||1)-1)*(2*P)≤(2*a+1-1)*P:=by
   have e:((a|||1)-1)*(2*P)=(2*((a|||1)-1))*P:=by rw[←cg,fx _ 2]
   rw[e];exact fg _ (by omega)
  have h4:(2*a+1+1)*P≤((a|||1)+1)*(2*P):=by
   have e:((a|||1)+1)*(2*P)=(2*((a|||1)+1))*P:=by rw[←cg,fx _ 2]
   rw[e];exact fg _ (by omega)
  omega
theorem Tw (h:xt Z m s) (hc:c%2=0):c≤m↔c*2^s≤Z:=by
 have hP:0<2^s:=eZ (by decide);unfold xt at h;generalize 2^s=P at*
 by_cases he:m%2=0
 ·rw[az he]at h;rw[h];exact⟨fun h=>fg _ h,fun h=>Th h hP⟩
 ·rw[ah he]at h;constructor
  ·intro hh;have:c*P≤(m-1)*P:=fg _ (by omega);omega
  ·intro hh;have h1:c*P<(m+1)*P:=by omega
   have:=Nat.lt_of_mul_lt_mul_right h1;omega
theorem E9: ∀(f m:Nat) (e:Int),∃j,j≤f∧(lh f m e).2=e-j∧(lh f m e).1=m*2^j
 |0,m,e=>⟨0,aS _,by simp[lh],by simp[lh]⟩
 |f+1,m,e=>by
  rw[lh];split
  ·obtain⟨j,h1,h2,h3⟩:=E9 f (m*2) (e-1);exact⟨j+1,by omega,by rw[h2];omega,by rw[h3,ep,cg,fx 2]⟩
  ·exact⟨0,aV _,by simp,by simp⟩
theorem TY {Z:Nat}: ∀(f m:Nat) (e:Int) (s:Nat),xt Z m s→ ∃j,j≤f∧(mj f m e).2=e+j∧xt Z (mj f m e).1 (s+j)∧((mj f m e).1=m∨18014398509481984≤(mj f m e).1)
 |0,m,e,s,h=>⟨0,aS _,by simp[mj],by simpa [mj]using h,.inl (by simp[mj])⟩
 |f+1,m,e,s,h=>by
  rw[mj];split
  ·rename_i hm;obtain⟨j,h1,h2,h3,h4⟩:=TY f (m/2|||m%2) (e+1) (s+1) (YS h);refine⟨j+1,by omega,by rw[h2];omega,by rw[show s+(j+1)=s+1+j by omega];exact h3,.inr ?_⟩;rcases h4 with h4|h4
   ·rw[h4];have:=Nat.left_le_or (n:=m/2) (m:=m%2);omega
   ·exact h4
  ·exact⟨0,aV _,by simp,by simpa using h,.inl rfl⟩
theorem aga:dQ (gD 4503599627370496 2047).toNat=true:=by decide+kernel
theorem xO (hm:m<18446744073709551616) (he: -1023≤e):dQ (vI m e).1=true↔1023<e:=by
 unfold vI;split
 ·rename_i h;simp only[aga];exact⟨fun _=>h,fun _=>trivial⟩
 ·rename_i h;simp only[pS hm (show (0:Int)≤e+1023 by omega) (by omega)];exact⟨fun h=>(by cases h),fun h2=>absurd h2 h⟩
theorem QS (h1:18014398509481984≤m) (h2:m<36028797018963968) (he: -1025≤e):dQ (yH m e).1=true↔1024≤e+2∨(e+2=1023∧36028797018963966≤m):=by
 have hq:4503599627370496≤m/4∧m/4<9007199254740992:=by omega
 unfold yH;by_cases hr:hxR m=3
 ·rw[az hr];by_cases D4:m/4+1=9007199254740992
  ·rw[az D4];have td:36028797018963966≤m:=by
    have ho:m/4%2=1:=by omega
    unfold hxR at hr;rw[show (3:Nat)=2^2-1 by decide,Dp,ho]at hr;have h4:m%2^2=0∨m%2^2=1∨m%2^2=2∨m%2^2=3:=by omega
    rcases h4 with h|h|h|h
    ·rw[h]at hr;simp at hr
    ·rw[h]at hr;simp at hr
    ·omega
    ·omega
   unfold qm;rw[ah (by omega),xO (by omega) (by omega)];omega
  ·rw[ah D4];unfold qm;rw[ah (by omega),xO (by omega) (by omega)];omega
 ·rw[ah hr];have td: ¬36028797018963966≤m:=by
   intro hm;apply hr;have ho:m/4%2=1:=by omega
   unfold hxR;rw[show (3:Nat)=2^2-1 by decide,Dp,ho];have h4:m%2^2=2∨m%2^2=3:=by omega
   rcases h4 with h|h<;>rw[h]<;>decide
  unfold qm;rw[ah (by omega),xO (by omega) (by omega)];omega
theorem Vc:dQ (Sj 0 0 false).1=false:=by decide+kernel
theorem agb (σ c:Nat) (h:σ+2≤c):36028797018963968*2^σ≤(2^54-1)*2^c:=by
 refine bR (tZ _ (dZ (by decide) (show σ≤c-2 by omega))) ?_;rw[show (2:Nat)^c=4*2^(c-2)by rw[show (4:Nat)=2^2 by decide,←dV];congr 1;omega];generalize (2:Nat)^(c-2)=y;omega
theorem ac8 (σ c:Nat) (h:c=σ+1):36028797018963966*2^σ=(2^54-1)*2^c:=by
 rw[h,show (2:Nat)^(σ+1)=2*2^σ from A7];generalize (2:Nat)^σ=y;omega
theorem agc (σ c:Nat) (h:c≤σ):(2^54-1)*2^c≤18014398509481984*2^σ:=by
 have h2:(2:Nat)^c≤2^σ:=dZ (by decide) h;exact bR (tZ _ h2) (fg _ (by decide))
theorem Jv (h1:lh 54 m (p+52)=(m1,e1)) (hs:e1=(s:Int)-8) (dy:xt Z (zN m1 tr) s) (AG:18014398509481984≤zN m1 tr) (sP:zN m1 tr<18446744073709551616):
  dQ (Sj m p tr).1=true↔o0*2^60≤Z:=by
 unfold Sj;rw[h1];obtain⟨j,j1,j2,j3,j4⟩:=TY 9 (zN m1 tr) e1 s dy;have gM:=BC 9 (zN m1 tr) e1 (by rw[show (2:Nat)^(55+9)=18446744073709551616 by decide];exact sP);have Xs:18014398509481984≤(mj 9 (zN m1 tr) e1).1:=by rcases j4 with h|h<;>omega
 simp only;generalize mj 9 (zN m1 tr) e1=q at*
 obtain⟨m3,e3⟩:=q;simp only at*
 rw[QS Xs gM.1 (by omega)];obtain⟨σ,hσ⟩: ∃σ,σ=s+j:=⟨_,rfl⟩;rw[←hσ]at j3;have he3:e3=(σ:Int)-8:=by omega
 have KZ:o0*2^60=(2^54-1)*2^1030:=by
  unfold o0;generalize h1:(970:Nat)=a;generalize h2:(1030:Nat)=c;exact afV _ a 60 c (by omega)
 rw[KZ];rcases Ed σ 1029 with hc|hc|hc
 ·have h2:=(Tw j3 (c:=36028797018963968) (by decide)).2;have hZ:Z<36028797018963968*2^σ:=by
   rcases dE Z (36028797018963968*2^σ)with h|h
   ·exact h
   ·have:=h2 h;omega
  have h6:=iv hZ (agb σ 1030 (by omega));generalize (2^54-1)*2^1030=V at h6 ⊢
  clear h2 hZ KZ j3;constructor
  ·rintro(h|h)<;>omega
  ·intro h;omega
 ·have h2:=Tw j3 (c:=36028797018963966) (by decide);have h4:=ac8 σ 1030 (by rw[hc]);rw[h4]at h2;rw[←h2];constructor
  ·rintro(h|h)
   ·omega
   ·exact h.2
  ·intro h;exact .inr ⟨by omega,h⟩
 ·have h2:=(Tw j3 (c:=18014398509481984) (by decide)).1 Xs;have h3:=agc σ 1030 (by omega);constructor
  ·intro _;have h9:=bR h3 h2;exact h9
  ·intro _;exact .inl (by omega)
theorem QT (h:Eo l l.length) (h2:2<l.length):dQ (LB l)=true↔o0≤kS l l.length:=by
 obtain⟨i1,⟨r,i2,i3,i4,i5⟩,i6,i7⟩:=YR h l.length (by omega) (aS _);have cH:=Gl h l.length (by omega) (aS _);unfold LB;generalize eH l l.length=R at*
 generalize kS l l.length=N at*
 obtain⟨M,Nm,D,tr⟩:=R;obtain⟨⟨k1,k2,k3⟩,k4⟩:=cH;simp only at*
 subst i1;have ak9:M<18446744073709551616:=by
  have h5:(16:Nat)^min D 16≤16^16:=dZ (by decide) (by omega);have h6:(16:Nat)^16=18446744073709551616:=by decide
  omega
 by_cases hM:M=0
 ·have hD:D=0:=by
   rcases jL D with h0|h0
   ·exact h0
   ·have:=i6 h0;have hp:0<16^(min D 16-1):=eZ (by decide);omega
  have Hn:tr=false:=by cases tr;rfl;exact absurd (i5 rfl).2 (by omega)
  have hN:N=0:=by rw[i2,hM,i4 Hn];omega
  rw[hM,Hn,hN];simp only[ne_eq,not_true_eq_false,iw,Vc];have:0<o0:=by decide+kernel
  constructor
  ·intro h;cases h
  ·intro h;omega
 ·rw[az hM];obtain⟨c,hc⟩: ∃c,c=D-min D 16:=⟨_,rfl⟩;rw[←hc]at i2 i3;have hp:4*(D:Int)-4*((min D 16:Nat):Int)=((4*c:Nat):Int):=by omega
  rw[hp];have WG:(16:Nat)^c=2^(4*c):=by rw[show (16:Nat)=2^4 by decide,←Nat.pow_mul]
  have mu:o0≤N↔o0*2^60≤N*2^60:=(yk (show 0<2^60 by decide)).symm;rw[mu];cases Hn:tr
  ·have hr0:=i4 Hn;obtain⟨j,j1,j2,j3⟩:=E9 54 M (((4*c:Nat):Int)+52);have gM:=BB 54 M (((4*c:Nat):Int)+52) (fun h0=>by
    have:1*2^54≤M*2^54:=fg _ (by omega);have e:(2:Nat)^54=18014398509481984:=by decide
    omega) ak9
   generalize hh:lh 54 M (((4*c:Nat):Int)+52)=q at*
   obtain⟨m1,e1⟩:=q;simp only at*
   have tW:m1≠0:=by rw[j3];exact Nat.ne_of_gt (Nat.mul_pos (by omega) (eZ (by decide)))
   refine Jv (s:=4*c+60-j) hh (by omega) ?_ (by show _≤m1;exact gM.2.1 tW) (by show m1<_;exact gM.1);apply Ju;show N*2^60=m1*2^(4*c+60-j);rw[i2,hr0,iz,WG,j3,cg,cg,←dV,←dV]
   congr 2
   omega
  ·obtain⟨r0,arl⟩:=i5 Hn;have iA:=i6 (by omega);rw[show min D 16-1=15 by omega,show (16:Nat)^15=1152921504606846976 by decide]at iA;have hh:=OH (m:=M) (by omega) (((4*c:Nat):Int)+52) 54;have ho:=kh M;have hle:=j0 M;have lW:=j6 M;have aA:M|||1<2^64:=Ee (by omega) (by decide);refine Jv (s:=4*c+60) hh (by omega) ?_ (by show _≤M|||1;omega) (by show M|||1<_;omega);show xt (N*2^60) (M|||1) (4*c+60);unfold xt;rw[ah (by omega),i2,WG,dV];rw[WG]at i3;generalize 2^(4*c)=P at*
   have e60:0<2^60:=by decide
   generalize 2^60=Q at*
   rw[←cg,←cg,Nat.mul_lt_mul_right e60,Nat.mul_lt_mul_right e60];have g1:((M|||1)-1)*P≤M*P:=fg _ (by omega);have g2:(M+1)*P≤((M|||1)+1)*P:=fg _ (by omega);rw[Nat.succ_mul]at g2;omega
def ew (a:Nat) (c:UInt8):Option Nat:=
 if a=8∧tT c=true then some 9
 else if a=9∨a=10 then(if gO c=true then some 10 else none)
 else if digit c=true then(if a=0 then(if c.toNat=48 then some 8 else some 1)else if a=1∨a=8 then some 1 else if a=2∨a=3∨a=4 then some 4 else some 7)
 else if c.toNat=46 then(if a=0 then some 3 else if a=1∨a=8 then some 2 else none)
 else if tc c=true then(if a=1∨a=8∨a=2∨a=4 then some 5 else none)
 else if zM c=true then(if a=5 then some 6 else none)
 else none
def Bn (a:Nat):Bool:=a==1||a==8||a==2||a==4||a==7||a==10
def pf (a n i:Nat):List UInt8→Nat
 |[]=>n
 |c::r=>match ew a c with
  |none=>n
  |some b=>pf b (if Bn b then i+1 else n) (i+1) r
theorem Jw (h:i<l.length):l.drop i=au l i::l.drop (i+1):=by
 rw[o5 h];rw[show au l i=l[i]by rw[au,lf,lJ h];rfl]
theorem lQ (h:i<l.length) (hs:ew a (au l i)=none):pf a n i (l.drop i)=n:=by
 rw[Jw h,pf,hs]
theorem ry (h:l.length≤i):pf a n i (l.drop i)=n:=by
 rw[tY h,pf]
theorem eX (h:i<l.length) (hs:ew a (au l i)=some b):pf a n i (l.drop i)=pf b (if Bn b then i+1 else n) (i+1) (l.drop (i+1)):=by
 rw[Jw h,pf,hs]
theorem gr {p:UInt8→Bool} (h:i<l.length) (hp:p (au l i)=true):ag p l i=ag p l (i+1):=by
 refine(iu h ?_).symm
 rwa [show l[i]=au l i by rw[au,lf,lJ h];rfl]
theorem TZ (l:List UInt8): ∀d i,l.length-i=d→pf 10 i i (l.drop i)=ag gO l i
 |0,i,h=>by rw[ry (by omega),bP (by omega)]
 |d+1,i,h=>by
  have hi:i<l.length:=by omega
  cases hx:gO (au l i)
  ·rw[lQ hi (by simp[ew,hx]),dw hi hx]
  ·rw[eX hi (b:=10) (by simp[ew,hx]),gr hi hx];exact TZ l d (i+1) (by omega)
theorem BP (l:List UInt8): ∀d i,l.length-i=d→pf 7 i i (l.drop i)=ag digit l i
 |0,i,h=>by rw[ry (by omega),bP (by omega)]
 |d+1,i,h=>by
  have hi:i<l.length:=by omega
  cases hx:digit (au l i)
  ·rw[lQ hi (by simp[ew,hx]),dw hi hx]
  ·rw[eX hi (b:=7) (by simp[ew,hx]),gr hi hx];exact BP l d (i+1) (by omega)
theorem wq (l:List UInt8) (j:Nat) (h:j<l.length) (hd:digit (au l j)=true):j<ag digit l j:=by
 rw[gr h hd];have:=aW digit l (j+1);omega
theorem YT:pf 6 n j (l.drop j)=if j<ag digit l j then ag digit l j else n:=by
 by_cases h:j<l.length
 ·cases hd:digit (au l j)
  ·rw[lQ h (by simp[ew,hd]),dw h hd,ah (by omega)]
  ·rw[eX h (b:=7) (by simp[ew,hd]),az (wq l j h hd)];show pf 7 (j+1) (j+1) _=_;rw[BP l _ (j+1) rfl,gr h hd]
 ·rw[ry (by omega),bP (by omega),ah (by omega)]
theorem Vd: ∀c:UInt8,zM c=true→digit c=false∧(c.toNat=46)=False∧tc c=false∧tT c=false:=iq (by decide+kernel)
theorem YU: ∀c:UInt8,tc c=true→digit c=false∧(c.toNat=46)=False∧tT c=false:=iq (by decide+kernel)
theorem OY: ∀c:UInt8,c.toNat=46→digit c=false∧tc c=false∧tT c=false:=iq (by decide+kernel)
theorem YV: ∀c:UInt8,tT c=true→digit c=false∧(c.toNat=46)=False∧tc c=false:=iq (by decide+kernel)
theorem ac9 (h:i<l.length):pf 5 n (i+1) (l.drop (i+1))=if dG l i<ag digit l (dG l i)then ag digit l (dG l i)else n:=by
 unfold dG;by_cases hp:i+1<l.length∧zM (au l (i+1))=true
 ·rw[az hp];obtain⟨h1,h2,h3,h4⟩:=Vd _ hp.2;rw[eX hp.1 (b:=6) (by simp[ew,h1,h2,h3,h4,hp.2])];exact YT
 ·rw[ah hp];by_cases hl:i+1<l.length
  ·have ZC:zM (au l (i+1))=false:=by simpa using fun h=>hp ⟨hl,h⟩
   cases hd:digit (au l (i+1))
   ·rw[dw hl hd,ah (by omega)];refine lQ hl ?_;simp[ew,hd,ZC]
   ·rw[eX hl (b:=7) (by simp[ew,hd]),az (wq l (i+1) hl hd)];show pf 7 (i+1+1) (i+1+1) _=_;rw[BP l _ (i+1+1) rfl,gr hl hd]
  ·rw[ry (by omega),bP (by omega),ah (by omega)]
theorem vR (ha:a=1∨a=8∨a=2∨a=4) (hd:i<l.length→digit (au l i)=false) (hp:i<l.length→(au l i).toNat=46→a=2∨a=4) (hx:i<l.length→a=8→tT (au l i)=false):pf a i i (l.drop i)=cU l i:=by
 unfold cU;by_cases h:i<l.length
 ·have h1:=hd h;have h2:=hp h;have h3:=hx h;cases hE:tc (au l i)
  ·rw[az (.inr rfl)];refine lQ h ?_;have e2: ¬(a=9∨a=10):=by omega
   unfold ew;rw[ah (by rintro⟨x,y⟩;rw[h3 x]at y;cases y),ah e2,h1,ah (by simp)];split
   ·rename_i FX;have:=h2 FX;rw[ah (by omega),ah (by omega)]
   ·rw[hE,ah (by simp)];split
    ·rw[ah (by omega)]
    ·rfl
  ·obtain⟨_,e3,e4⟩:=YU _ hE;rw[ah (by rintro(x|x)<;>first|omega|cases x)];rw[eX h (b:=5) (by
    unfold ew;rw[ah (by rintro⟨_,y⟩;rw[e4]at y;cases y),ah (by omega),h1,ah (by simp),ah (by rw[e3];exact id),hE,az rfl,az ha])]
   show pf 5 i (i+1) _=_;exact ac9 h
 ·rw[az (.inl (by omega)),ry (by omega)]
theorem Gt (l:List UInt8): ∀d i,l.length-i=d→pf 4 i i (l.drop i)=cU l (ag digit l i)
 |0,i,h=>by rw[bP (by omega)];exact vR (by simp) (by omega) (by omega) (by omega)
 |d+1,i,h=>by
  have hi:i<l.length:=by omega
  cases hx:digit (au l i)
  ·rw[dw hi hx];exact vR (by simp) (fun _=>hx) (by simp) (by simp)
  ·rw[eX hi (b:=4) (by simp[ew,hx]),gr hi hx];exact Gt l d (i+1) (by omega)
theorem Ve (l:List UInt8) (i:Nat):pf 2 i i (l.drop i)=cU l (ag digit l i):=by
 by_cases hi:i<l.length
 ·cases hx:digit (au l i)
  ·rw[dw hi hx];exact vR (by simp) (fun _=>hx) (by simp) (by simp)
  ·rw[eX hi (b:=4) (by simp[ew,hx]),gr hi hx];exact Gt l _ (i+1) rfl
 ·rw[bP (by omega)];exact vR (by simp) (by omega) (by omega) (by omega)
def jC (l:List UInt8) (k:Nat):Nat:=if k<l.length∧(au l k).toNat=46 then cU l (ag digit l (k+1))else cU l k
theorem Az (ha:a=1∨a=8) (hd:i<l.length→digit (au l i)=false) (hx:i<l.length→a=8→tT (au l i)=false):pf a i i (l.drop i)=jC l i:=by
 unfold jC;by_cases hp:i<l.length∧(au l i).toNat=46
 ·rw[az hp];obtain⟨e1,e2,e3⟩:=OY _ hp.2;rw[eX hp.1 (b:=2) (by rcases ha with rfl|rfl<;>simp[ew,e1,e3,hp.2])];exact Ve l (i+1)
 ·rw[ah hp];exact vR (by omega) hd (fun h1 h2=>absurd ⟨h1,h2⟩ hp) hx
theorem BQ (l:List UInt8): ∀d i,l.length-i=d→pf 1 i i (l.drop i)=jC l (ag digit l i)
 |0,i,h=>by rw[bP (by omega)];exact Az (by simp) (by omega) (by omega)
 |d+1,i,h=>by
  have hi:i<l.length:=by omega
  cases hx:digit (au l i)
  ·rw[dw hi hx];exact Az (by simp) (fun _=>hx) (by simp)
  ·rw[eX hi (b:=1) (by simp[ew,hx]),gr hi hx];exact BQ l d (i+1) (by omega)
theorem qa (h:0<ag digit l 0):(if aK l=0 then 0 else cU l (aK l))=jC l (ag digit l 0):=by
 unfold jC;by_cases hp:ag digit l 0<l.length∧(au l (ag digit l 0)).toNat=46
 ·have h2:=aW digit l (ag digit l 0+1);have h5:aK l=ag digit l (ag digit l 0+1):=by rw[aK,az ⟨hp.1,hp.2,h⟩]
  rw[h5,az hp,ah (by omega)]
 ·have h5:aK l=ag digit l 0:=by rw[aK,ah (by rintro⟨a,b,_⟩;exact hp ⟨a,b⟩),ah (by omega)]
  rw[h5,ah hp,ah (by omega)]
theorem GY (l:List UInt8):pf 0 0 0 l=an l:=by
 have hl0:pf 0 0 0 l=pf 0 0 0 (l.drop 0):=rfl;rw[hl0];by_cases h0:0<l.length
 ·cases hd:digit (au l 0)
  ·have hs:ag digit l 0=0:=dw h0 hd;have hh:aR l=false:=by
    unfold aR;have:((au l 0).toNat==48)=false:=by
     rw[bN];intro h;have:digit (au l 0)=true:=by simp[digit,h]
     rw[hd]at this;cases this
    rw[this,tx,qX,qX]
   rw[an,hh,ah (by simp)];by_cases hp:(au l 0).toNat=46
   ·obtain⟨e1,e2,e3⟩:=OY _ hp;rw[eX h0 (b:=3) (by simp[ew,e1,hp])];show pf 3 0 1 (l.drop 1)=_;by_cases h1:1<l.length
    ·cases zD:digit (au l 1)
     ·rw[lQ h1 (by unfold ew;simp only[zD];simp;repeat' split<;>simp_all)];have h5:aK l=0:=by
       rw[aK,hs,ah (by omega),ah (by rintro⟨_,_,_,h⟩;rw[zD]at h;cases h)]
      rw[h5,az rfl]
     ·rw[eX h1 (b:=4) (by simp[ew,zD])];show pf 4 2 2 (l.drop 2)=_;rw[Gt l _ 2 rfl];have h5:aK l=ag digit l 1:=by
       rw[aK,hs,ah (by omega),az ⟨rfl,h1,hp,zD⟩]
      have h6:=wq l 1 h1 zD;rw[h5,ah (by omega),gr h1 zD]
    ·have h5:aK l=0:=by rw[aK,hs,ah (by omega),ah (by omega)]
     rw[ry (by omega),h5,az rfl]
   ·have h5:aK l=0:=by rw[aK,hs,ah (by omega),ah (by rintro⟨_,_,h,_⟩;exact hp h)]
    rw[h5,az rfl];refine lQ h0 ?_;unfold ew;rw[ah (by omega),ah (by omega),hd,ah (by simp),ah hp];split
    ·rw[ah (by omega)]
    ·split
     ·rw[ah (by omega)]
     ·rfl
  ·have qy:=wq l 0 h0 hd;have hsy:=gr h0 hd;by_cases hz:(au l 0).toNat=48
   ·rw[eX h0 (b:=8) (by simp[ew,hd,hz])];show pf 8 1 1 (l.drop 1)=_;by_cases hX:1<l.length∧tT (au l 1)=true
    ·obtain⟨x1,x2,x3⟩:=YV _ hX.2;rw[eX hX.1 (b:=9) (by simp[ew,hX.2])];show pf 9 1 2 (l.drop 2)=_;have uP:ag digit l 0=1:=by rw[hsy,dw hX.1 x1]
     by_cases hh:aR l=true
     ·have Ws:=hh;simp[aR]at Ws;rw[an,az hh,eX Ws.1.1.1 (b:=10) (by simp[ew,Ws.2])];show pf 10 3 3 (l.drop 3)=_;rw[TZ l _ 3 rfl,gr Ws.1.1.1 Ws.2]
     ·rw[an,ah hh,qa (by omega),uP];have hn:pf 9 1 2 (l.drop 2)=1:=by
       by_cases h2:2<l.length
       ·refine lQ h2 ?_;have mj:gO (au l 2)=false:=by
         rw[←yv];intro h;exact hh (by simp[aR,h2,hz,hX.2,h])
        simp[ew,mj]
       ·exact ry (by omega)
      rw[hn,jC,ah (by rw[x2];simp),cU,az (.inr x3)]
    ·have hh: ¬aR l=true:=by
      intro h;simp[aR]at h;exact hX ⟨by omega,h.1.2⟩
     rw[an,ah hh,qa qy,hsy];by_cases h1:1<l.length
     ·have hX':tT (au l 1)=false:=by simpa using fun h=>hX ⟨h1,h⟩
      cases zD:digit (au l 1)
      ·show pf 8 1 1 (l.drop 1)=jC l (ag digit l 1);rw[dw h1 zD];exact Az (by simp) (fun _=>zD) (fun _ _=>hX')
      ·rw[eX h1 (b:=1) (by simp[ew,zD,hX'])];show pf 1 2 2 (l.drop 2)=jC l (ag digit l 1);rw[BQ l _ 2 rfl,gr h1 zD]
     ·show pf 8 1 1 (l.drop 1)=jC l (ag digit l 1);rw[bP (by omega)];exact Az (by simp) (by omega) (by omega)
   ·have hh: ¬aR l=true:=by
     intro h;simp[aR]at h;exact hz h.1.1.2
    rw[an,ah hh,qa qy,hsy,eX h0 (b:=1) (by simp[ew,hd,hz])];exact BQ l _ 1 rfl
 ·have:l=[]:=o6.1 (by omega);subst this;rfl
theorem Fa (c:UInt8) (w:World):
  Calls prog 138 #[.int .u8 (c.toNat:Int)] w fun e w'=>e= .returned (.bool (digit c))∧w=w':=by
 go_enter func138,ntmps138;go_wp2
 all_goals (go_ret;exact⟨ar (by rw[eo];simp[digit];omega),rfl⟩)
def FY (c:UInt8):Int:=if gO c then(mv c:Int)else-1
theorem mI (c:UInt8):(digit c=true→FY c=(c.toNat:Int)-48)∧(97≤c.toNat→c.toNat≤102→FY c=(c.toNat:Int)-87)∧(65≤c.toNat→c.toNat≤70→FY c=(c.toNat:Int)-55)∧(gO c=false→FY c= -1)∧(gO c=true→0≤FY c∧FY c≤15∧FY c=(mv c:Int)):=by
 revert c;exact iq (by decide+kernel)
theorem YW {c:UInt8} (hd:digit c=false) (h1: ¬(97≤c.toNat∧c.toNat≤102)) (h2: ¬(65≤c.toNat∧c.toNat≤70)):gO c=false:=by
 unfold gO;rw[hd,Bool.false_or,Bool.or_eq_false_iff];constructor
 ·rw[←yv,kH,ua,ua];exact h1
 ·rw[←yv,kH,ua,ua];exact h2
theorem OZ (c:UInt8) (w:World):
  Calls prog 137 #[.int .u8 (c.toNat:Int)] w fun e w'=>e= .returned (.int .i64 (FY c))∧w=w':=by
 go_enter func137,ntmps137;cases hd:digit c
 all_goals
  go_wp2_with fail;refine(Fa _ _).mono ?_;rintro e w' ⟨rfl,rfl⟩;rw[hd];go_wp2_with fail
 all_goals
  go_ret;refine⟨aH ?_,rfl⟩
  first
   |(rw[(mI c).1 hd];have:=aJ hd;omega)
   |(rw[(mI c).2.1 (by omega) (by omega)];omega)
   |(rw[(mI c).2.2.1 (by omega) (by omega)];omega)
   |(rw[(mI c).2.2.2.1 (YW hd (by omega) (by omega))])
def vJ (a:Nat) (c:UInt8):Int:=
 if a=8∧tT c=true then 9
 else if a=9∨a=10 then(if gO c=true then 10 else-1)
 else if digit c=true then(if a=0 then(if c.toNat=48 then 8 else 1)else if a=1∨a=8 then 1 else if a=2∨a=3∨a=4 then 4 else 7)
 else if c.toNat=46 then(if a=0 then 3 else if a=1∨a=8 then 2 else-1)
 else if tc c=true then(if a=1∨a=8∨a=2∨a=4 then 5 else-1)
 else if zM c=true then(if a=5 then 6 else-1)
 else-1
theorem Jy (a:Nat) (ha:a≤10) (c:UInt8) (w:World):
  Calls prog 123 #[.int .i64 (a:Int),.int .u8 (c.toNat:Int)] w fun e w'=>e= .returned (.int .i64 (vJ a c))∧w=w':=by
 have aca:a=0∨a=1∨a=2∨a=3∨a=4∨a=5∨a=6∨a=7∨a=8∨a=9∨a=10:=by omega
 have hV:vJ a c=vJ a c:=rfl;generalize hv:vJ a c=V at hV;clear hV;rcases aca with rfl|rfl|rfl|rfl|rfl|rfl|rfl|rfl|rfl|rfl|rfl
 all_goals
  clear ha;have hv':=ae hv;clear hv;go_enter func123,ntmps123;cases hd:digit c
  all_goals
   cases hx:gO c
   all_goals
    have hi:=(mI c).2.2.2;simp only[hx,lk,reduceCtorEq,true_implies,false_implies,kJ,vD]at hi;go_wp2_with (first|(go_at_call 138;refine(Fa _ _).mono ?_;rintro e w' ⟨rfl,rfl⟩;rw[hd])|(go_at_call 137;refine(OZ _ _).mono ?_;rintro e w' ⟨rfl,rfl⟩))
 all_goals
  go_ret;refine⟨aH ?_,rfl⟩;rw[←hv'.out];simp only[vJ,tT,tc,zM,hd,hx,tu,cx,Nat.reduceEqDiff,false_and,and_false,vD,kJ,or_true,true_or,iX,false_or,kK,iw,lk,or_self,reduceCtorEq]
  first
   |done
   |rfl
   |(repeat' split)<;>first|rfl|omega|(simp only[cx,bN,ne_eq]at*;omega)|(have:=aJ hd;simp only[cx,bN,ne_eq]at*;omega)
theorem QU (a:Nat) (w:World):
  Calls prog 124 #[.int .i64 (a:Int)] w fun e w'=>e= .returned (.bool (Bn a))∧w=w':=by
 go_enter func124,ntmps124;go_wp2
 all_goals (go_ret;exact⟨ar (by rw[eo];simp[Bn];try omega),rfl⟩)
theorem YY (a:Nat) (c:UInt8):vJ a c=(match ew a c with|none=> -1|some b=>(b:Int)):=by
 unfold vJ ew
 repeat' split
 all_goals first|rfl|(simp_all;done)|(simp_all<;>omega)
theorem Vf {c:UInt8} (h:ew a c=some b):b≤10:=by
 unfold ew at h
 repeat' split at h
 all_goals first|(injection h with h;omega)|cases h
theorem uB (s:ByteArray) (w:World) (hs:s.size≤281474976710656):
  Calls prog 111 #[.string s] w fun e w'=>e= .returned (.int .i64 (an s.data.toList:Nat))∧w=w':=by
 go_enter func111,ntmps111;go_wp2_with fail;go_loop [3,4,5] (fun t3 t4 t5=> ∃a n i:Nat,a≤10∧i≤s.size∧t3= .int .i64 (a:Int)∧t4= .int .i64 (n:Int)∧t5= .int .i64 (i:Int)∧Hid (pf a n i (s.data.toList.drop i)=an s.data.toList)) (fun _ _ t5=>s.size-(intOf t5).toNat)
 case atStart=>exact⟨0,0,0,by omega,by omega,rfl,rfl,rfl,ae (GY _)⟩
 case round=>
  obtain⟨a,n,i,ha,hi,rfl,rfl,rfl,gM⟩:=hrel;by_cases aA:i<s.size
  ·have cI:=ae (ay aA);have hN:=ae (YY a s[i]);cases dy:ew a s[i]with
   |none=>
    have hv:vJ a s[i]= -1:=by rw[hN.out,dy]
    have aka:=ae dy;clear dy;go_wp2_with (go_at_call 123;refine(Jy a ha _ _).mono ?_;rintro e w' ⟨rfl,rfl⟩;rw[hv]);go_ret;exact⟨aH (by rw[←gM.out,lQ (by rw[af];exact aA) (by rw[cI.out];exact aka.out)]),rfl⟩
   |some b=>
    have hv:vJ a s[i]=(b:Int):=by rw[hN.out,dy]
    have hb:=Vf dy;have hpf:=ae (eX (l:=s.data.toList) (i:=i) (n:=n) (by rw[af];exact aA) (by rw[cI.out];exact dy));clear dy;cases hw:Bn b
    all_goals
     go_wp2_with (first|(go_at_call 123;refine(Jy a ha _ _).mono ?_;rintro e w' ⟨rfl,rfl⟩;rw[hv])|(go_at_call 124;refine(QU _ _).mono ?_;rintro e w' ⟨rfl,rfl⟩;rw[hw]))
    ·exact⟨⟨b,n,i+1,hb,aA,rfl,rfl,by go_num,ae (by have h:=hpf.out;rw[hw,ah (by simp)]at h;rw[←h,gM.out])⟩,gF aA⟩
    ·exact⟨⟨b,i+1,i+1,hb,aA,rfl,by go_num,by go_num,ae (by have h:=hpf.out;rw[hw,az rfl]at h;rw[←h,gM.out])⟩,gF aA⟩
  ·have ab4:=ae (ry (l:=s.data.toList) (a:=a) (n:=n) (i:=i) (by rw[af];omega));go_wp2_with fail;go_ret;exact⟨aH (by rw[←gM.out,ab4.out]),rfl⟩
def okW (c d:UInt8):Bool:=c.toNat==d.toNat||c.toNat+32==d.toNat
theorem Jz (s t:ByteArray) (w:World) (ht:t.size=3) (o3: ∀(i:Nat) (h:i<t.size),97≤t[i].toNat) (V:Bool) (hV:V=true↔s.size=3∧ ∀(i:Nat) (h:i<s.size) (h2:i<t.size),okW s[i] t[i]=true):
  Calls prog 126 #[.string s,.string t] w fun e w'=>e= .returned (.bool V)∧ ∃d,w'=w.drewN d:=by
 have HV:=ae hV;have HS:=ae o3;clear hV o3;by_cases h3:s.size=3
 ·go_enter func126,ntmps126;go_wp2_with fail;go_loopw [5] (fun t5 wr=> ∃k n:Nat,k≤3∧wr=w.drewN n∧t5= .int .i64 (k:Int)∧Hid (∀(i:Nat) (h:i<s.size) (h2:i<t.size),i<k→okW s[i] t[i]=true)) (fun t5 _=>3-(intOf t5).toNat)
  case atStart=>exact⟨0,0,by omega,rfl,rfl,ae (fun _ _ _ h=>by omega)⟩
  case round=>
   obtain⟨k,n,hk,rfl,rfl,Xr⟩:=hrel;by_cases aA:k<3
   ·have nZ:k<s.size:=by omega
    have hkt:k<t.size:=by omega
    have lW:=HS.out k hkt;have ZA:t[k].toNat<256:=uc _;obtain⟨c,hc⟩: ∃c:Nat,c=s[k].toNat:=⟨_,rfl⟩;obtain⟨d,hd⟩: ∃d:Nat,d=t[k].toNat:=⟨_,rfl⟩;have q1:(t[k].toNat-32:Int)%256=(t[k].toNat-32:Int):=by omega
    cases ho:okW s[k] t[k]
    ·have Pz: ¬s[k].toNat=t[k].toNat∧ ¬s[k].toNat+32=t[k].toNat:=by simpa [okW]using ho
     have p1:((s[k].toNat:Int) != (t[k].toNat:Int))=true:=by simp;omega
     have p2:((s[k].toNat:Int) != ((t[k].toNat:Int)-32))=true:=by simp;omega
     go_wp2_with fail;go_quiet (fail);go_wp2_with fail;go_ret;exact⟨ar (by rw[eq_comm,←yv];exact fun h=>by have h4:=(HV.out.1 h).2 k nZ hkt;rw[ho]at h4;cases h4),_,jP _ _ _⟩
    ·have Pz:s[k].toNat=t[k].toNat∨s[k].toNat+32=t[k].toNat:=by simpa [okW]using ho
     by_cases he:s[k].toNat=t[k].toNat
     ·have p1:((s[k].toNat:Int) != (t[k].toNat:Int))=false:=by simp;omega
      go_wp2_with fail;go_quiet (fail);go_wp2_with fail;exact⟨⟨k+1,_,aA,rfl,by go_num,ae (fun i h h2 hi=>by
       rcases dE i k with h4|h4
       ·exact Xr.out i h h2 h4
       ·have h5:i=k:=by omega
        subst h5;exact ho)⟩,gF aA⟩
     ·have p1:((s[k].toNat:Int) != (t[k].toNat:Int))=true:=by simp;omega
      have p2:((s[k].toNat:Int) != ((t[k].toNat:Int)-32))=false:=by simp;omega
      go_wp2_with fail;go_quiet (fail);go_wp2_with fail;exact⟨⟨k+1,_,aA,rfl,by go_num,ae (fun i h h2 hi=>by
       rcases dE i k with h4|h4
       ·exact Xr.out i h h2 h4
       ·have h5:i=k:=by omega
        subst h5;exact ho)⟩,gF aA⟩
   ·have h3':k=3:=by omega
    subst h3';go_wp2_with fail;go_ret;exact⟨ar (Eq.symm (HV.out.2 ⟨h3,fun i h h2=>Xr.out i h h2 (by omega)⟩)),_,rfl⟩
 ·go_enter func126,ntmps126;go_wp2_with fail;go_ret;exact⟨ar (by rw[eq_comm,←yv];exact fun h=>h3 (HV.out.1 h).1),0,rfl⟩
theorem akb: ∀c:UInt8,∀d:Fin 256,97≤d.val→d.val≤122→(okW c (UInt8.ofNat d.val)=true↔(c.toNat|||32)=d.val):=by
 intro c;revert c;exact iq (by decide+kernel)
theorem O0 (s:ByteArray) (a b c:UInt8) (ha:97≤a.toNat∧a.toNat≤122) (hb:97≤b.toNat∧b.toNat≤122) (hc:97≤c.toNat∧c.toNat≤122):
  dD s.data.toList a.toNat b.toNat c.toNat=true↔s.size=3∧ ∀(i:Nat) (h:i<s.size) (h2:i<(ByteArray.mk #[a,b,c]).size),okW s[i] (ByteArray.mk #[a,b,c])[i]=true:=by
 have key: ∀x y:UInt8,97≤y.toNat→y.toNat≤122→(okW x y=true↔(x.toNat|||32)=y.toNat):=fun x y h1 h2=>by
  have:=akb x ⟨y.toNat,uc y⟩ h1 h2;simpa using this
 unfold dD;rw[af];by_cases h3:s.size=3
 ·rw[ay (by omega),ay (by omega),ay (by omega)];simp only[h3,beq_self_eq_true,mx,kH,cx,vD];constructor
  ·rintro⟨⟨h4,h5⟩,h6⟩ i h h2;have hi:i=0∨i=1∨i=2:=by omega
   rcases hi with rfl|rfl|rfl
   ·exact(key _ a ha.1 ha.2).2 h4
   ·exact(key _ b hb.1 hb.2).2 h5
   ·exact(key _ c hc.1 hc.2).2 h6
  ·intro h;exact⟨⟨(key _ a ha.1 ha.2).1 (h 0 (by omega) (by show 0<3;decide)),(key _ b hb.1 hb.2).1 (h 1 (by omega) (by show 1<3;decide))⟩,(key _ c hc.1 hc.2).1 (h 2 (by omega) (by show 2<3;decide))⟩
 ·have:(s.size==3)=false:=by simpa using h3
  rw[this];simp[h3]
theorem Gu {l:List UInt8} {m:Nat} (h:lu l m): ∀k,k≤m→(dF l k).n<10^k
 |0,_=>by show (0:Nat)<1;decide
 |k+1,hk=>by
  have ih:=Gu h k (by omega);have hl:=h.1;rw[nI (by omega),ep];unfold jT;split
  ·show (dF l k).n<_;omega
  ·rename_i hn;have hd:=aJ ((h.2 k (by omega)).resolve_right fun h=>hn h.1);show (dF l k).n*10+_<_;omega
def tooBig (l:List UInt8):Prop:=if aR l=true then o0≤kS l l.length else gS (dF l (bL l)).n (fW l-((dF l (bL l)).behind:Int))
theorem Vg (h0:an l=l.length) (bW:l≠[]) (hl:l.length≤512):vc l=true↔tooBig l:=by
 have pc:0<l.length:=Ec.2 bW;unfold vc tooBig jU;cases hh:aR l
 ·rw[ah (show ¬(false=true)by simp)];obtain⟨hm,⟨i0,s9,_⟩,he⟩:=me h0 bW hh;have hX:tT (au l 1)=false:=by
   rcases dE 1 l.length with h1|h1
   ·exact(Au h0 bW hh h1).1
   ·have:au l 1=0:=by rw[au,lf,D9 h1];rfl
    rw[this];decide
  cases hs:gU l
  ·simp only[Bool.not_false,mx,lk,iw,hX];have hml:=hm.1;refine QQ hm (by omega) ?_;unfold fW;split
   ·rename_i aA;have hx:IQ l (bL l) (pq l) (xn l):=by
     rcases he with he|he
     ·omega
     ·exact he.2
    have:=F2 l.length (jk hx.some) (aS _) hx.fh;split<;>omega
   ·omega
  ·simp only[Bool.not_true,qX,lk,false_iff];unfold gU at hs;simp only[kH,ua]at hs;obtain⟨qy,uP⟩:=hs;have ZB:bL l=l.length:=by
    rcases he with he|⟨h1,he⟩
    ·exact he
    ·exfalso;have hE:=he.tc;have:=qS.1 uP l[bL l] (jj h1);have ha:l[bL l]=au l (bL l):=by rw[au,lf,lJ h1];rfl
     rw[ha]at this;have hf:=pP (c:=au l (bL l)) (by simpa using this);rw[hf]at hE;cases hE
   have hn:=Gu hm (bL l) (aS _);have hv:fW l=0:=by unfold fW;rw[ah (by omega)]
   rw[hv];exact oG (a:=bL l) (jk hn) (by omega)
 ·rw[az (show true=true from rfl)];obtain⟨h2,h3,h4,h5⟩:=sC h0 hh;have hs:gU l=false:=by
   unfold gU;have:oN l=false:=by
    unfold oN;rw[Ef];refine⟨l[1],jj (by omega),?_⟩;have ha:l[1]'(by omega)=au l 1:=by rw[au,lf,lJ (by omega)];rfl
    rw[ha];have fH: ∀c:UInt8,tT c=true→ ¬(digit c||c.toNat==46)=true:=iq (by decide+kernel);exact fH _ h4
   rw[this,tx]
  simp only[hs,Bool.not_false,mx,lk,iw,h4,kK];exact QT h5 h2
structure xu (w wr:World) (v:Value) (i N:Nat) (es:List Nat):Prop where
 r:pA wr v es
 ok:eu es
 norm:Norm es
 val:aE es=N
 len:es.length≤i
 below:Below w.heap.size w wr
theorem xu.nil (w:World):xu w w (.slice none 0 0) 0 0 []:=
 ⟨⟨none,0,rfl,fun j h=>by simp at h⟩,(fun d h=>by cases h),(fun h=>by simp at h),rfl,aS _,aU _ _⟩
theorem Vh (cH:eu es) (hl:es.length≤i) (hm:m<4294967296) (hc:c<4294967296):aE es*m+c<4294967296^(i+1):=by
 have h1:=pN es cH;have h2:4294967296^es.length≤4294967296^i:=dZ (by decide) hl;rw[ep];generalize 4294967296^i=B at*
 have h3:aE es*m≤(B-1)*4294967295:=ov (by omega) (by omega);have h4:(B-1)*4294967295=B*4294967295-4294967295:=by rw[Nat.sub_mul,Bb]
 omega
theorem xu.times (h:xu w wr v i N es) (hm:m<4294967296) (hc:c<4294967296) (hM:M=N*m+c) {e:Ending} (hp:ik wr (aE es*m+c) e w2):
  ∃v2 fs,e= .returned v2∧xu w w2 v2 (i+1) M fs:=by
 obtain⟨⟨v2,fs,rfl,f1,f2,f3,f4⟩,hb⟩:=hp;refine⟨v2,fs,rfl,f1.r,f4,f3,by rw[f2,h.val,hM],mH f3 ?_,h.below.trans (hb.mono h.below.size)⟩;rw[f2];exact Vh h.ok h.len hm hc
theorem xu.more (h:xu w wr v i N es) (hj:i≤j):xu w wr v j N es:=⟨h.r,h.ok,h.norm,h.val,bR h.len hj,h.below⟩
def wu (w:World) (n N:Nat) (X:Int) (e:Ending) (w':World):Prop:=
 ∃v es,e= .returned (.tuple #[v,.int .i64 X])∧xu w w' v n N es
theorem CW (s:ByteArray) (w:World) (hs:s.size≤512) (h2:1<s.size) (hX:tT s[1]=true) (hd: ∀(i:Nat) (h:i<s.size),2≤i→gO s[i]=true):
  Calls prog 128 #[.string s] w (wu w s.size (kS s.data.toList s.size) 0):=by
 have HD:=ae hd;have HX0:=ae (E8 s.data.toList);have hx:s[1].toNat=120∨s[1].toNat=88:=by simpa [tT]using hX
 clear hd hX;have hI0:=ae (xu.nil w);rcases hx with hx|hx
 all_goals
  have p1:((s[1].toNat:Int)==120)=decide (s[1].toNat=120):=by rw[eo];simp;omega
  have p2:((s[1].toNat:Int)==88)=decide (s[1].toNat=88):=by rw[eo];simp;omega
  simp only[hx,Nat.reduceEqDiff,decide_true,decide_false]at p1 p2;go_enter func128,ntmps128;go_wp2_with fail;go_loopw [4,5] (fun t4 t5 wr=> ∃(i:Nat) (es:List Nat),i≤s.size∧2≤i∧t5= .int .i64 (i:Int)∧Hid (xu w wr t4 i (kS s.data.toList i) es)) (fun _ t5 _=>s.size-(intOf t5).toNat)
  case atStart=>exact⟨2,[],by omega,by omega,rfl,ae (by rw[HX0.out];exact hI0.more (by omega))⟩
  case round=>
   obtain⟨i,es,hi,wZ,rfl,hI⟩:=hrel;by_cases aA:i<s.size
   ·have hh:=HD i aA wZ;obtain⟨x,hx'⟩: ∃x,x=mv s[i]:=⟨_,rfl⟩;have hv:=(mI s[i]).2.2.2.2 hh;rw[hv.2.2,←hx']at hv;have bx:x≤15:=by omega
    have hv':FY s[i]=(x:Int):=by rw[(mI s[i]).2.2.2.2 hh |>.2.2,hx']
    have HK:=ae (show kS s.data.toList (i+1)=kS s.data.toList i*16+x by rw[Cw wZ (by rw[af];exact aA),ay aA,hx']);have q1:IntKind.u32.wrap (x:Int)=(x:Int):=by rw[qT];omega
    have ht:=ae (sL wr _ es 16 x hI.r hI.ok (by have:=hI.len;omega) (by decide) (by omega));clear hv hx' hh;go_wp2_with (go_at_call 137;refine(OZ _ _).mono ?_;rintro e w' ⟨rfl,rfl⟩;rw[hv']);have Sm:Calls prog 139 #[_,.int .u32 16,.int .u32 (x:Int)] wr (ik wr (aE es*16+x)):=ht;refine Sm.mono ?_;intro e w2 hp;obtain⟨v2,fs,rfl,hN⟩:=hI.times (by decide) (by omega) HK hp;have HN:=ae hN;clear hp hN ht Sm;go_wp2_with fail;exact⟨⟨i+1,fs,aA,by omega,by go_num,HN⟩,gF aA⟩
   ·have he:i=s.size:=by omega
    go_wp2_with fail;subst he;go_ret2;exact⟨_,es,rfl,hI⟩
def Oo (e:Nat) (c:UInt8):Nat:=if e<100000 then e*10+(c.toNat-48)else e
def K3 (l:List UInt8) (j k:Nat):Nat:=((l.drop j).take (k-j)).foldl Oo 0
theorem sM (l:List UInt8) (j:Nat):K3 l j j=0:=by simp[K3]
theorem JA (hj:j≤k) (h:k<l.length):K3 l j (k+1)=Oo (K3 l j k) (au l k):=by
 have hk:k-j<(l.drop j).length:=by simp;omega
 have:(l.drop j)[k-j]=au l k:=by
  rw[vr,au,lf,lJ (by omega)];simp[show j+(k-j)=k by omega]
 rw[K3,show k+1-j=k-j+1 by omega,jO hk,yq,this];rfl
theorem YZ: ∀k,j≤k→k≤l.length→(∀i,j≤i→i<k→digit (au l i)=true)→(K3 l j k=zC l j k∨(10000≤K3 l j k∧10000≤zC l j k))∧K3 l j k≤1000009:=by
 intro k hj;induction k with
 |zero=>
  intro _ _;have:j=0:=by omega
  subst this;simp[sM,oM]
 |succ k ih=>
  intro hk hd;by_cases he:j=k+1
  ·subst he;simp[sM,oM]
  ·obtain⟨h1,h2⟩:=ih (by omega) (by omega) (fun i a b=>hd i a (by omega));have hf:=aJ (hd k (by omega) (by omega));rw[JA (by omega) (by omega),wb (by omega) (by omega)];unfold Oo mC;constructor
   ·split<;>split<;>omega
   ·split<;>omega
def rX (l:List UInt8):Int:=(if bL l<l.length then(if xn l=true then-(K3 l (pq l) l.length:Int)else(K3 l (pq l) l.length:Int))else 0)-((dF l (bL l)).behind:Int)
theorem sN {l:List UInt8}: ∀k,k≤l.length→(dF l k).behind≤k
 |0,_=>aS _
 |k+1,hk=>by
  have ih:=sN (l:=l) k (by omega);rw[nI (by omega)];unfold jT;split
  ·show (dF l k).behind≤k+1;omega
  ·simp only;split<;>omega
theorem CX (s:ByteArray) (w:World) (hs:s.size≤512) (hX: ∀h:1<s.size,tT s[1]=false) (m:Nat) (hm:bL s.data.toList=m) (cH:lu s.data.toList m) (hE:m=s.size∨m<s.size∧IQ s.data.toList m (pq s.data.toList) (xn s.data.toList)):
  Calls prog 128 #[.string s] w (wu w s.size (dF s.data.toList m).n (rX s.data.toList)):=by
 have AK:m≤s.size:=by have:=cH.1;rwa [af]at this
 have FD:=ae cH;have HE:=ae hE;have HM:=ae hm;have hI0:=ae (xu.nil w);have aeY:dF s.data.toList 0=⟨0,0,false⟩:=rfl;have Aj:=ae aeY;have HMN:Hid (∀(i:Nat) (h:i<s.size),i<m→tc s[i]=false):=ae (fun i h hi=>by
  rcases cH.2 i hi with h1|h1
  ·rw[←ay h];exact pP (.inl h1)
  ·rw[←ay h];exact pP (.inr h1.1))
 have hx: ¬1<s.size∨ ∃h:1<s.size,((s[1].toNat:Int)==120)=false∧((s[1].toNat:Int)==88)=false:=by
  by_cases h1:1<s.size
  ·refine .inr ⟨h1,?_⟩;have:=hX h1;simp[tT]at this;constructor<;>simp<;>omega
  ·exact .inl h1
 clear cH hE hm hX aeY;rcases hx with h1|⟨h1,p1,p2⟩
 all_goals
  go_enter func128,ntmps128;go_wp2_with fail;go_loopw [4,6,7,8] (fun t4 t6 t7 t8 wr=> ∃(i:Nat) (es:List Nat),i≤m∧t6= .int .i64 (i:Int)∧Hid (xu w wr t4 i (dF s.data.toList i).n es)∧t7= .int .i64 ((dF s.data.toList i).behind:Int)∧t8= .bool (dF s.data.toList i).Bg) (fun _ t6 _ _ _=>s.size-(intOf t6).toNat)
  case atStart=>exact⟨0,[],aV _,rfl,by rw[Aj.out];exact hI0,by rw[Aj.out];rfl,by rw[Aj.out]⟩
  case round=>
   obtain⟨i,es,hi,rfl,hI,rfl,rfl⟩:=hrel;by_cases aA:i<m
   ·have lg:i<s.size:=by omega
    have bW:=HMN.out i lg aA;have akc: ¬s[i].toNat=101∧ ¬s[i].toNat=69:=by simpa [tc]using bW
    have e1:((s[i].toNat:Int) != 101)=true:=by simp;omega
    have e2:((s[i].toNat:Int) != 69)=true:=by simp;omega
    have xa:=ae (show dF s.data.toList (i+1)=jT (dF s.data.toList i) s[i]by rw[nI (by rw[af];exact lg),ay lg]);have HC:=ae (show digit s[i]=true∨s[i].toNat=46 by
     rcases FD.out.2 i aA with h|h
     ·rw[ay lg]at h;exact .inl h
     ·rw[ay lg]at h;exact .inr h.1)
    clear bW akc;by_cases FX:s[i].toNat=46
    ·have e3:((s[i].toNat:Int)==46)=true:=by simp;omega
     have FZ:Hid (dF s.data.toList (i+1)=⟨(dF s.data.toList i).n,(dF s.data.toList i).behind,true⟩):=ae (by rw[xa.out,jT,az FX]);clear xa;clear FX;go_wp2_with fail;exact⟨⟨i+1,es,aA,by go_num,ae (by rw[FZ.out];exact hI.out.more (by omega)),by rw[FZ.out],by rw[FZ.out]⟩,gF lg⟩
    ·have e3:((s[i].toNat:Int)==46)=false:=by simp;omega
     have qw:=aJ (HC.out.resolve_right FX);obtain⟨x,hx⟩: ∃x,x=s[i].toNat-48:=⟨_,rfl⟩;have q1:((s[i].toNat:Int)-48)%256=(x:Int):=by omega
     have q2:IntKind.u32.wrap (x:Int)=(x:Int):=by rw[qT];omega
     have bx:x≤9:=by omega
     have FZ:Hid (dF s.data.toList (i+1)=⟨(dF s.data.toList i).n*10+x,if (dF s.data.toList i).Bg=true then(dF s.data.toList i).behind+1 else(dF s.data.toList i).behind,(dF s.data.toList i).Bg⟩):=ae (by rw[xa.out,jT,ah FX,hx]);have ht:=ae (sL wr _ es 10 x hI.out.r hI.out.ok (by have:=hI.out.len;omega) (by decide) (by omega));have HBH:=ae (sN (l:=s.data.toList) i (by rw[af];omega));clear xa qw hx;clear FX;obtain⟨S,hS⟩: ∃S,S=dF s.data.toList i:=⟨_,rfl⟩;rw[←hS]at FZ hI HBH;rw[←hS];clear hS;have bB:S.behind≤i:=HBH.out;cases hpt:S.Bg
     all_goals
      rw[hpt]at FZ;go_wp2_with fail;have Sm:Calls prog 139 #[_,.int .u32 10,.int .u32 (x:Int)] wr (ik wr (aE es*10+x)):=ht.out;refine Sm.mono ?_;intro e w2 hp;obtain⟨v2,fs,rfl,hN⟩:=hI.out.times (by decide) (by omega) rfl hp;have HN:=ae hN;clear hp hN ht Sm;go_wp2_with fail
     all_goals exact⟨⟨i+1,fs,aA,by go_num,ae (by rw[FZ.out];exact HN.out),by rw[FZ.out];rfl,by rw[FZ.out]⟩,gF lg⟩
   ·have he:i=m:=by omega
    subst he;clear hi aA;have HBH:=ae (sN (l:=s.data.toList) i (by rw[af];omega));obtain⟨S,hS⟩: ∃S,S=dF s.data.toList i:=⟨_,rfl⟩;have HRX:=ae (show rX s.data.toList=(if i<s.size then(if xn s.data.toList=true then-(K3 s.data.toList (pq s.data.toList) s.size:Int)else(K3 s.data.toList (pq s.data.toList) s.size:Int))else 0)-(S.behind:Int)by
     rw[rX,HM.out,af,hS])
    have HSN:=ae (cn SM.n hS.symm);rw[←hS]at hI HBH;rw[←hS];clear hS;have bB:S.behind≤i:=HBH.out;by_cases ZB:i<s.size
    ·have hE:=HE.out.resolve_left (by omega);have hEx:=hE.2;have hXE:((s[i].toNat:Int)=101)∨((s[i].toNat:Int)=69):=by
      have:=hEx.tc;rw[ay ZB]at this;simp[tc]at this;omega
     have hEX:=ae hEx;clear hE hEx;rcases hXE with hXE|hXE
     all_goals
      have e1:((s[i].toNat:Int) != 101)=decide ((s[i].toNat:Int)≠101):=by rw[eo];simp
      have e2:((s[i].toNat:Int) != 69)=decide ((s[i].toNat:Int)≠69):=by rw[eo];simp
      rw[hXE]at e1 e2;go_wp2_with fail;obtain⟨j,hj⟩: ∃j,j=pq s.data.toList:=⟨_,rfl⟩;obtain⟨sg,Xt⟩: ∃b,b=xn s.data.toList:=⟨_,rfl⟩;rw[←hj,←Xt]at hEX HRX;clear hj Xt;have hjs:j<s.size:=by have:=hEX.out.some;rwa [af]at this
      have Xq:i+1≤j:=by rcases hEX.out.sign with h|h|h<;>omega
      go_loop [6,9,10] (fun t6 t9 t10=> ∃(k p:Nat) (mi:Bool),k≤s.size∧p≤1000009∧t6= .int .i64 (k:Int)∧t9= .int .i64 (p:Int)∧t10= .bool mi∧Hid ((k=i+1∧k<j∧p=0∧mi=false)∨(j≤k∧p=K3 s.data.toList j k∧mi=sg))) (fun t6 _ _=>s.size-(intOf t6).toNat)
      case atStart=>
       refine⟨i+1,0,false,ZB,by omega,by go_num,rfl,rfl,ae ?_⟩;by_cases h:i+1<j
       ·exact .inl ⟨rfl,h,rfl,rfl⟩
       ·have he:j=i+1:=by omega
        refine .inr ⟨by omega,by rw[he,sM],?_⟩;rcases hEX.out.sign with h|h|h
        ·exact h.2.1.symm
        ·omega
        ·omega
      case round=>
       obtain⟨k,p,mi,hk,hp,rfl,rfl,rfl,hR⟩:=hrel;by_cases nZ:k<s.size
       ·rcases hR.out with⟨mP,zE,rfl,rfl⟩|⟨mP,zE,rfl⟩
        ·have akd:(s[k].toNat=43∧sg=false)∨(s[k].toNat=45∧sg=true):=by
          subst mP;rcases hEX.out.sign with h|h|h
          ·omega
          ·rw[ay nZ]at h;exact .inl ⟨h.2.2,h.2.1⟩
          ·rw[ay nZ]at h;exact .inr ⟨h.2.2,h.2.1⟩
         have hj2:j=k+1:=by
          rcases hEX.out.sign with h|h|h<;>omega
         have yf:Hid (K3 s.data.toList j (k+1)=0):=ae (by rw[hj2,sM]);have HJ2:=ae hj2;clear hj2 mP zE hR;rcases akd with⟨hc,uP⟩|⟨hc,uP⟩
         all_goals
          have f1:((s[k].toNat:Int)==45)=decide ((s[k].toNat:Int)=45):=by rw[eo];simp
          have f2:((s[k].toNat:Int) != 43)=decide ((s[k].toNat:Int)≠43):=by rw[eo];simp
          rw[hc]at f1 f2;have qx:=ae uP;clear uP;go_wp2_with fail;exact⟨⟨k+1,0,sg,nZ,by omega,by go_num,rfl,by rw[qx.out],ae (.inr ⟨by have:=HJ2.out;omega,yf.out.symm,rfl⟩)⟩,gF nZ⟩
        ·have qw:=hEX.out.fh k mP (by rw[af];exact nZ);rw[ay nZ]at qw;have FJ:=aJ qw;obtain⟨x,hx⟩: ∃x,x=s[k].toNat-48:=⟨_,rfl⟩;have f1:((s[k].toNat:Int)==45)=false:=by simp;omega
         have f2:((s[k].toNat:Int) != 43)=true:=by simp;omega
         have f3:((s[k].toNat:Int)-48)%256=(x:Int):=by omega
         have bx:x≤9:=by omega
         have yf:Hid (K3 s.data.toList j (k+1)=if p<100000 then p*10+x else p):=ae (by rw[JA mP (by rw[af];exact nZ),←zE,ay nZ,Oo,hx]);have Su:=ae mP;clear mP zE qw FJ hx;by_cases iy:p<100000
         ·have f4:((p:Int)<100000)=True:=aD (by omega);go_wp2_with fail;exact⟨⟨k+1,p*10+x,mi,nZ,by omega,by go_num,by apply Sl;omega,rfl,ae (.inr ⟨by have:=Su.out;omega,by rw[yf.out,az iy],rfl⟩)⟩,gF nZ⟩
         ·have f4:((p:Int)<100000)=False:=bT (by omega);go_wp2_with fail;exact⟨⟨k+1,p,mi,nZ,hp,by go_num,rfl,rfl,ae (.inr ⟨by have:=Su.out;omega,by rw[yf.out,ah iy],rfl⟩)⟩,gF nZ⟩
       ·have aeZ:k=s.size:=by omega
        have Ho:=hR.out.resolve_left (by omega);have ake:Hid (rX s.data.toList=(if mi=true then-(p:Int)else(p:Int))-(S.behind:Int)):=ae (by rw[HRX.out,az ZB,Ho.2.1,Ho.2.2,aeZ]);clear hR Ho aeZ;cases mi
        all_goals
         go_wp2_with fail;rw[ake.out];go_ret2;exact⟨_,es,rfl,by rw[HSN.out];exact hI.out.more AK⟩
    ·go_wp2_with fail;go_loop [6,9,10] (fun t6 t9 t10=>t6= .int .i64 ((i:Int)+1)∧t9= .int .i64 0∧t10= .bool false) (fun _ _ _=>0)
     case atStart=>exact⟨by go_num,rfl,rfl⟩
     case round=>
      obtain⟨rfl,rfl,rfl⟩:=hrel;go_wp2_with fail;rw[HRX.out,ah ZB,Int.zero_sub];go_ret2;exact⟨_,es,rfl,by rw[HSN.out];exact hI.out.more AK⟩
def nN (l:List UInt8):Nat:=if aR l=true then kS l l.length else(dF l (bL l)).n
def nX (l:List UInt8):Int:=if aR l=true then 0 else rX l
theorem Nb (s:ByteArray) (w:World) (hs:s.size≤512) (h0:an s.data.toList=s.data.toList.length) (bW:s.data.toList≠[]):
  Calls prog 128 #[.string s] w (wu w s.size (nN s.data.toList) (nX s.data.toList)):=by
 cases hh:aR s.data.toList
 ·have h1:nN s.data.toList=(dF s.data.toList (bL s.data.toList)).n:=by rw[nN,hh,ah (by simp)]
  have h2:nX s.data.toList=rX s.data.toList:=by rw[nX,hh,ah (by simp)]
  rw[h1,h2];obtain⟨hm,_,he⟩:=me h0 bW hh;refine CX s w hs (fun h=>?_) _ rfl hm ?_
  ·have:=(Au h0 bW hh (by rw[af];exact h)).1
   rwa [ay h]at this
  ·rw[af]at he;exact he
 ·have h1:nN s.data.toList=kS s.data.toList s.size:=by rw[nN,hh,az rfl,af]
  have h2:nX s.data.toList=0:=by rw[nX,hh,az rfl]
  rw[h1,h2];obtain⟨g1,_,g3,g4⟩:=sC h0 hh;rw[af]at g1;refine CW s w hs (by omega) ?_ (fun i h hi=>?_)
  ·rwa [ay (by omega)]at g3
  ·have:=g4.2 i hi (by rw[af];exact h)
   rwa [ay h]at this
theorem O1 (h0:an l=l.length) (bW:l≠[]) (hh:aR l=false) (hl:l.length≤512):
  (rX l=fW l-((dF l (bL l)).behind:Int)∨(9000≤rX l∧9000≤fW l-((dF l (bL l)).behind:Int))∨(rX l≤ -10000∧fW l-((dF l (bL l)).behind:Int)≤ -10000))∧ -2000000≤rX l∧rX l≤2000000:=by
 obtain⟨hm,_,he⟩:=me h0 bW hh;have hb:=sN (l:=l) (bL l) hm.1;have hml:=hm.1;unfold rX fW;by_cases aA:bL l<l.length
 ·rw[az aA,az aA];rcases he with he|⟨_,he⟩
  ·omega
  ·obtain⟨h1,h2⟩:=YZ (l:=l) (j:=pq l) l.length (jk he.some) (aS _) he.fh;generalize K3 l (pq l) l.length=r at*
   generalize zC l (pq l) l.length=e at*
   split<;>omega
 ·rw[ah aA,ah aA];omega
theorem Vi (h0:an l=l.length) (bW:l≠[]) (hl:l.length≤512): -2000000≤nX l∧nX l≤2000000:=by
 unfold nX;cases hh:aR l
 ·rw[ah (by simp)];exact(O1 h0 bW hh hl).2
 ·rw[az rfl];omega
theorem Y0:0<o0:=Nat.lt_of_lt_of_le (show 0<10000000000000000000 by decide) (jk YQ)
theorem verdict (h0:an l=l.length) (bW:l≠[]) (hl:l.length≤512):
  (nN l=0→vc l=false)∧(nN l≠0→400<nX l→vc l=true)∧(nX l< -1000→vc l=false)∧(-1000≤nX l→nX l≤400→(vc l=true↔o0*10^(-nX l).toNat≤nN l*10^(nX l).toNat)):=by
 have hi:=Vg h0 bW hl;unfold tooBig at hi;cases hh:aR l
 ·have e1:nN l=(dF l (bL l)).n:=by rw[nN,hh,ah (by simp)]
  have e2:nX l=rX l:=by rw[nX,hh,ah (by simp)]
  rw[ah (by rw[hh];simp)]at hi;obtain⟨hm,_,_⟩:=me h0 bW hh;have hml:=hm.1;have hn:=Gu hm (bL l) (aS _);obtain⟨hx,_⟩:=O1 h0 bW hh hl;rw[e1,e2];have hN: ∀b:Bool,¬b=true→b=false:=by decide
  generalize (dF l (bL l)).n=N at*
  generalize rX l=R at*
  generalize fW l-((dF l (bL l)).behind:Int)=X at*
  have hn5:N≤10^512:=bR (jk hn) (Ol _ 512 (by omega));refine⟨fun hz=>hN _ fun h=>?_,fun hz hg=>?_,fun hg=>hN _ fun h=>?_,fun g1 g2=>?_⟩
  ·subst hz;exact OW (hi.1 h)
  ·refine hi.2 (L5 (a:=0) (by rw[o9];omega) ?_);rcases hx with hx|hx|hx<;>omega
  ·refine oG (a:=512) hn5 ?_ (hi.1 h);rcases hx with hx|hx|hx<;>omega
  ·have:R=X:=by rcases hx with hx|hx|hx<;>omega
   subst this;exact hi
 ·have e1:nN l=kS l l.length:=by rw[nN,hh,az rfl]
  have e2:nX l=0:=by rw[nX,hh,az rfl]
  rw[az hh]at hi;rw[e1,e2];have hN: ∀b:Bool,¬b=true→b=false:=by decide
  have hp:=Y0;refine⟨fun hz=>hN _ fun h=>?_,fun hz hg=>?_,fun hg=>?_,fun g1 g2=>?_⟩
  ·have:=hi.1 h;rw[hz]at this;exact absurd hp (Nat.not_lt.2 this)
  ·exact absurd hg (by decide)
  ·exact absurd hg (by decide)
  ·rw[show (-(0:Int)).toNat=0 from rfl,show (0:Int).toNat=0 from rfl,o9,oj,oj];exact hi
