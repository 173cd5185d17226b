import Derived.Test.YtcdoilkjmjbgmaaGreatDoorW16
import Derived.Test.YtcdoilkjmjbgmaaGreatDoorW17
/- Part of the proof of YtcdoilkjmjbgmaaGreatDoorCardX: RbG RbH OvF RbK OvH RbL RbM RbN. -/
set_option maxRecDepth 100000
set_option maxHeartbeats 4000000
set_option linter.unusedVariables false
set_option linter.unusedSimpArgs false
namespace Go.Proofs.YtcdoilkjmjbgmaaGreatDoor
open Go.RowKit
open Go.Proofs.Tryz
variable {es fs:List Nat} {k a b M e N D lo K m c d i j:Nat} {w w' wr w2:World} {A X p:Int} {l:List UInt8} {v:Value}
def Dy (b:Nat):Nat:=if b/4503599627370496=0 then b else b%4503599627370496+4503599627370496
def AO (b:Nat):Int:=if b/4503599627370496=0 then-1074 else((b/4503599627370496:Nat):Int)-1075
theorem Fp (w:World) (b:Nat) (hb:b<9223372036854775808):
  Calls prog 141 #[.int .u64 (b:Int)] w fun e w'=>e= .returned (.tuple #[.int .u64 (Dy b:Int),.int .i64 (AO b)])∧w'=w:=by
 obtain⟨M,hM⟩: ∃M,M=Dy b:=⟨_,rfl⟩;obtain⟨E,hE⟩: ∃E,E=AO b:=⟨_,rfl⟩;rw[←hM,←hE];obtain⟨x,hx⟩: ∃x,x=b/4503599627370496:=⟨_,rfl⟩;have q1:(b:Int)/4503599627370496=(x:Int):=by omega
 unfold Dy at hM;unfold AO at hE;rw[←hx]at hM hE;by_cases h0:x=0
 ·rw[ar h0]at hM hE;subst hM hE;have p1:((x:Int)=0)=True:=az (by omega);go_enter func141,ntmps141;go_wp2_with fail
  all_goals (go_ret2;exact⟨rfl,rfl⟩)
 ·rw[af h0]at hM hE;have p1:((x:Int)=0)=False:=bL (by omega);have au:b%4503599627370496<4503599627370496:=lE _ (by decide);have q2:bits .and .u64 (b:Int) 4503599627370495=((b%4503599627370496:Nat):Int):=by
   have:=bits_and_u64_nat b 4503599627370495 (by omega) (by decide);rw[show (4503599627370495:Nat)=2^52-1 by decide,DB]at this;exact this
  obtain⟨abx,Iy⟩: ∃l,l=b%4503599627370496:=⟨_,rfl⟩;rw[←Iy]at q2 hM au;have q3:bits .or .u64 (abx:Int) 4503599627370496=(M:Int):=by
   have h1:=bits_or_u64_nat abx 4503599627370496 (by omega) (by decide);have h2:=ID (i:=52) (b:=abx) (by simpa using au) 1;rw[oC,show (2:Nat)^52=4503599627370496 by decide,Nat.or_comm]at h2;rw[←h2]at h1;rw[hM,Bg];exact h1
  have bx:x≤2047:=by omega
  clear hM hx Iy;subst hE;go_enter func141,ntmps141;go_wp2_with fail
  all_goals (go_ret2;exact⟨rfl,rfl⟩)
theorem Pb (h:ek es) (h2:aA fs=aA es*2^k) (h3:Norm fs):fs.length≤es.length+k:=by
 apply mM h3;have h1:=qk es h;have h5:(2:Nat)^k≤4294967296^k:=Nat.pow_le_pow_left (by decide) k;rw[h2,dX];exact pI (uj _ h5) (qU h1 (eX (by decide)))
def Il (m:Nat) (e:Int) (N D:Nat):Int:=if 0≤e then qW (m*D*2^e.toNat) N else qW (m*D) (N*2^(-e).toNat)
theorem zw (w:World) (m:Nat) (e:Int) (vn vd:Value) (ns ds:List Nat) (hm:m<18446744073709551616) (he0: -100000≤e) (he1:e≤100000) (hn:pX w vn ns) (hd:pX w vd ds) (tw:ek ns) (hdo:ek ds) (qZ:Norm ns) (Lz:ns.length≤1000000) (Xx:ds.length≤1000000):
  Calls prog 142 #[.int .u64 (m:Int),.int .i64 e,vn,vd] w fun e' w'=>e'= .returned (.int .i64 (Il m e (aA ns) (aA ds)))∧Below w.heap.size w w':=by
 obtain⟨V,hV⟩: ∃V,V=Il m e (aA ns) (aA ds):=⟨_,rfl⟩;rw[←hV];obtain⟨lo,Aq⟩: ∃lo,lo=m%4294967296:=⟨_,rfl⟩;obtain⟨hi,sW⟩: ∃hi,hi=m/4294967296:=⟨_,rfl⟩;have q1:(m:Int)%4294967296=(lo:Int):=by omega
 have q2:(m:Int)/4294967296=(hi:Int):=by omega
 have q3:IntKind.u32.wrap (m:Int)=(lo:Int):=by rw[rn];omega
 have q4:IntKind.u32.wrap (hi:Int)=(hi:Int):=by rw[rn];omega
 have q5:(hi:Int)%4294967296=(hi:Int):=by omega
 have uY:jr (w.alloc (.cells #[.int .u32 (lo:Int),.int .u32 (hi:Int)] 184)) w.heap.size (.slice (some ⟨w.heap.size,0,none⟩) 2 2) [lo,hi]:=yz (e:=184) (size:=1) w #[.int .u32 (lo:Int),.int .u32 (hi:Int)] 2 (aP _) (by unfold maxLen;omega) rfl;have aU:=(aS w.heap.size w).alloc (aP _) (.cells #[.int .u32 (lo:Int),.int .u32 (hi:Int)] 184);have ll:aA [lo,hi]=m:=by show lo+4294967296*(hi+4294967296*0)=m;rw[nz,iv];omega
 have cC:ek [lo,hi]:=fun d hd=>by
  simp only[gq,kE,iN]at hd;rcases hd with rfl|rfl<;>omega
 have HP:=aa (zq (w.alloc (.cells #[.int .u32 (lo:Int),.int .u32 (hi:Int)] 184)) _ vd [lo,hi] ds uY.r (hd.below aU) cC hdo (by simp) (by omega));have bZ:=aa aU;have HV:=aa hV;have HVL:=aa ll;have HN:=aa (And.intro hn (And.intro tw (And.intro qZ hdo)));clear uY aU ll cC hV hn hd tw hdo qZ Aq sW;go_enter func142,ntmps142;go_wp2_with fail;have hp:Calls prog 130 #[.slice (some ⟨w.heap.size,0,none⟩) 2 2,vd] (w.alloc (.cells #[.int .u32 (lo:Int),.int .u32 (hi:Int)] 184)) (iz (w.alloc (.cells #[.int .u32 (lo:Int),.int .u32 (hi:Int)] 184)) (aA [lo,hi]*aA ds)):=HP;refine hp.mono ?_;rintro e' w2 ⟨⟨v2,es,rfl,f1,f2,f3,f4⟩,hb⟩;have Xq:Below w.heap.size w w2:=bZ.trans (hb.mono bZ.size);rw[HVL.out]at f2;have XE:es.length≤ds.length+2:=by
  apply mM f3;have h1:=qk ds HN.2.2.2;rw[f2,Bg,dX];exact Ex (by omega) h1
 have HA:=aa (And.intro f1 (And.intro f2 (And.intro f3 f4)));have HB:=aa Xq;have HL:=aa XE;clear f1 f2 f3 f4 hb Xq XE;by_cases h0:0≤e
 ·have p1:((0:Int)≤e)=True:=az h0;obtain⟨k,hk⟩: ∃k:Nat,e=(k:Int):=⟨e.toNat,by omega⟩;subst hk;go_wp2_with fail;have hs:Calls prog 153 #[v2,.int .i64 (k:Int)] w2 (iz w2 (aA es*2^k)):=zm w2 v2 es k HA.1.r HA.2.2.2 (by have:=HL.out;omega) (by omega);refine hs.mono ?_;rintro e' w3 ⟨⟨v3,fs,rfl,g1,g2,g3,g4⟩,gb⟩;have gl:fs.length≤1200000:=bn (Pb HA.2.2.2 g2 g3) (by have:=HL.out;omega);have Si:Below w.heap.size w w3:=HB.trans (gb.mono HB.size);have HG:=aa (And.intro g1 (And.intro g2 (And.intro g3 g4)));have HGL:=aa gl;have iR:=aa Si;clear g1 g2 g3 g4 gb gl Si;go_wp2_with fail;have hc:Calls prog 152 #[v3,vn] w3 fun e w'=>e= .returned (.int .i64 (qW (aA fs) (aA ns)))∧ ∃d,w'=w3.drewN d:=zp w3 v3 vn fs ns HG.1.r (HN.1.below iR) HG.2.2.2 HN.2.1 HG.2.2.1 HN.2.2.1 (by have:=HGL.out;omega) (by omega)
  refine hc.mono ?_;rintro e' w4 ⟨rfl,d,rfl⟩;have xz:qW (aA fs) (aA ns)=V:=by
   rw[HV.out,Il,ar h0,HG.out.2.1,HA.out.2.1,mq]
  rw[xz];go_wp2_with fail;go_ret;exact⟨rfl,bS iR d⟩
 ·have p1:((0:Int)≤e)=False:=bL h0;obtain⟨k,hk⟩: ∃k:Nat,e= -(k:Int):=⟨(-e).toNat,by omega⟩;subst hk;have q6:(-(-(k:Int)))=(k:Int):=by omega
  go_wp2_with fail;have hs:Calls prog 153 #[vn,.int .i64 (k:Int)] w2 (iz w2 (aA ns*2^k)):=zm w2 vn ns k (HN.1.below HB) HN.2.1 (by omega) (by omega);refine hs.mono ?_;rintro e' w3 ⟨⟨v3,fs,rfl,g1,g2,g3,g4⟩,gb⟩;have gl:fs.length≤1200000:=bn (Pb HN.2.1 g2 g3) (by omega);have Si:Below w.heap.size w w3:=HB.trans (gb.mono HB.size);have ha3:pX w3 v2 es:=HA.1.r.below gb;have HG:=aa (And.intro g1 (And.intro g2 (And.intro g3 g4)));have HGL:=aa gl;have iR:=aa Si;have HA3:=aa ha3;clear g1 g2 g3 g4 gb gl Si ha3;go_wp2_with fail;have hc:Calls prog 152 #[v2,v3] w3 fun e w'=>e= .returned (.int .i64 (qW (aA es) (aA fs)))∧ ∃d,w'=w3.drewN d:=zp w3 v2 v3 es fs HA3 HG.1.r HA.2.2.2 HG.2.2.2 HA.2.2.1 HG.2.2.1 (by have:=HL.out;omega) (by have:=HGL.out;omega)
  refine hc.mono ?_;rintro e' w4 ⟨rfl,d,rfl⟩;have xz:qW (aA es) (aA fs)=V:=by
   rw[HV.out,Il,af (by omega),HG.out.2.1,HA.out.2.1,Int.neg_neg,mq]
  rw[xz];go_wp2_with fail;go_ret;exact⟨rfl,bS iR d⟩
theorem uI (a b:Nat):(qW a b= -1∧a<b)∨(qW a b=0∧a=b)∨(qW a b=1∧b<a):=by
 unfold qW;by_cases h:a<b
 ·rw[ar h];exact Or.inl ⟨rfl,h⟩
 ·rw[af h];by_cases h2:b<a
  ·rw[ar h2];exact Or.inr (Or.inr ⟨rfl,h2⟩)
  ·rw[af h2];exact Or.inr (Or.inl ⟨rfl,by omega⟩)
theorem GD:qW a b≤0↔a≤b:=by
 rcases uI a b with⟨h,h2⟩|⟨h,h2⟩|⟨h,h2⟩<;>rw[h]<;>constructor<;>intro _<;>omega
theorem Fq (m:Nat) (e:Int) (N D:Nat):Il m e N D= -1∨Il m e N D=0∨Il m e N D=1:=by
 unfold Il;split
 ·rcases uI (m*D*2^e.toNat) N with h|h|h
  ·exact Or.inl h.1
  ·exact Or.inr (Or.inl h.1)
  ·exact Or.inr (Or.inr h.1)
 ·rcases uI (m*D) (N*2^(-e).toNat)with h|h|h
  ·exact Or.inl h.1
  ·exact Or.inr (Or.inl h.1)
  ·exact Or.inr (Or.inr h.1)
theorem Ma (hb:b<eW):Dy b<9007199254740992:=by
 unfold Dy;unfold eW at hb;split<;>omega
theorem Mc (hb:b<eW): -1074≤AO b∧AO b≤971:=by
 unfold AO;unfold eW at hb;split<;>omega
theorem acu (hM:M<9007199254740992) (he:e≤a+1):M*2^e≤(2^54-1)*2^a:=by
 have h1:(2:Nat)^e≤2^(a+1):=ee (by decide) he;have h2:=oH (Nat.le_of_lt_succ hM) h1;rw[show (2:Nat)^(a+1)=2^a*2 from ef (n:=2) (m:=a)]at h2;generalize (2:Nat)^a=X at h2 ⊢
 omega
theorem Fs (hM:M<9007199254740992) (he:e≤971):M*2^e≤pF:=by
 unfold pF;generalize h:(970:Nat)=a;exact acu hM (by omega)
theorem Za (hb:b<eW) (h:pF*D≤N):Il (Dy b) (AO b) N D≤0:=by
 have h1:=Ma hb;have h2:=(Mc hb).2;unfold Il;split
 ·rename_i h0;rw[GD,bV,fu D,←bV];exact bn (fc D (Fs h1 (by omega))) h
 ·rename_i h0;rw[GD];have h3:=Fs (e:=0) h1 (by omega);rw[pK,oC]at h3;have h4:N*1≤N*2^(-AO b).toNat:=uj N (eX (by decide));rw[oC]at h4;exact bn (fc D h3) (bn h h4)
theorem acv (N D:Nat):Il (2*Dy 9218868437227405311+1) (AO 9218868437227405311-1) N D≤0↔pF*D≤N:=by
 have h1:Dy 9218868437227405311=9007199254740991:=by decide
 have h2:AO 9218868437227405311=971:=by decide
 rw[h1,h2];unfold Il;rw[ar (by decide),GD,show ((971:Int)-1).toNat=970 by decide];unfold pF;generalize (970:Nat)=a;rw[bV,fu D,←bV]
def rQ (w:World) (N D:Nat) (e:Ending) (w':World):Prop:=
 ∃b:Nat,e= .returned (.int .u64 (b:Int))∧b≤eW∧(eW≤b↔pF*D≤N)∧Below w.heap.size w w'
theorem GF (h:lo<eW) (ho:pF*D≤N→lo=9218868437227405311) (hT:lo=9218868437227405311→(A≤0↔pF*D≤N)) (hA:A≤0) (hb:Below w.heap.size w w'):
  rQ w N D (.returned (.int .u64 ((lo:Int)+1))) w':=by
 refine⟨lo+1,rfl,h,?_,hb⟩;unfold eW at h ⊢
 constructor
 ·intro h1;have h2:lo=9218868437227405311:=by omega
  exact(hT h2).mp hA
 ·intro h1;have:=ho h1;omega
theorem GG (h:lo<eW) (ho:pF*D≤N→lo=9218868437227405311) (hT:lo=9218868437227405311→(A≤0↔pF*D≤N)) (hA:A≤0→ ¬lo%2=1) (hb:Below w.heap.size w w'):
  rQ w N D (.returned (.int .u64 (lo:Int))) w':=by
 refine⟨lo,rfl,jt h,?_,hb⟩;constructor
 ·intro h1;omega
 ·intro h1;have h2:=ho h1;have h3:=(hT h2).mpr h1;exact absurd (by rw[h2]) (hA h3)
theorem zx (w:World) (vn vd:Value) (ns ds:List Nat) (hn:pX w vn ns) (hd:pX w vd ds) (tw:ek ns) (hdo:ek ds) (qZ:Norm ns) (Lz:ns.length≤1000000) (Xx:ds.length≤1000000):
  Calls prog 131 #[vn,vd] w (rQ w (aA ns) (aA ds)):=by
 have HN:=aa (And.intro hn (And.intro tw (And.intro qZ (And.intro hdo hd))));clear hn tw qZ hdo hd;go_enter func131,ntmps131;go_wp2_with fail;go_loopw [5,6,7,8,9] (fun t5 t6 t7 t8 t9 wr=> ∃(lo hi:Nat),Hid (lo≤hi∧hi<eW∧(pF*aA ds≤aA ns→hi=9218868437227405311)∧Below w.heap.size w wr)∧t5= .int .u64 (lo:Int)∧t6= .int .u64 (hi:Int)) (fun t5 t6 _ _ _ _=>(intOf t6).toNat-(intOf t5).toNat)
 case atStart=>exact⟨0,9218868437227405311,aa ⟨by decide,by decide,fun _=>rfl,aS _ _⟩,rfl,rfl⟩
 case round=>
  obtain⟨lo,hi,HI,rfl,rfl⟩:=hrel;by_cases au:lo<hi
  ·have p1:((lo:Int)<(hi:Int))=True:=az (by omega);have sW:hi<9218868437227405312:=HI.2.1;obtain⟨mid,Yb⟩: ∃m:Nat,m=lo+(hi-lo+1)/2:=⟨_,rfl⟩;have q1:((lo:Int)+((hi:Int)-(lo:Int)+1)/2)=(mid:Int):=by omega
   have m1:lo<mid:=by omega
   have m2:mid≤hi:=by omega
   clear Yb;have hmi:mid<eW:=pI m2 HI.2.1;go_wp2_with fail;refine(Fp wr mid (by omega)).mono ?_;rintro e' w1 ⟨rfl,hw⟩;subst w1;have hM:=aa (Ma hmi);have hE:=aa (Mc hmi);have hA:=aa (Fq (Dy mid) (AO mid) (aA ns) (aA ds));have hO:=aa (fun h:pF*aA ds≤aA ns=>Za hmi h);have ha:Calls prog 142 #[.int .u64 (Dy mid:Int),.int .i64 (AO mid),vn,vd] wr fun e' w'=>e'= .returned (.int .i64 (Il (Dy mid) (AO mid) (aA ns) (aA ds)))∧Below wr.heap.size wr w':=
    zw wr (Dy mid) (AO mid) vn vd ns ds (by have:=hM.out;omega) (by have:=hE.out;omega) (by have:=hE.out;omega) (HN.1.below HI.2.2.2) (HN.2.2.2.2.below HI.2.2.2) HN.2.1 HN.2.2.2.1 HN.2.2.1 Lz Xx
   have HW:=aa ha;clear ha hmi;generalize Il (Dy mid) (AO mid) (aA ns) (aA ds)=A at HW hA hO;generalize Dy mid=M at HW hM ⊢
   generalize AO mid=E at HW hE ⊢
   go_wp2_with fail;refine HW.mono ?_;rintro e' w2 ⟨rfl,hb⟩;have HB:=aa (HI.2.2.2.trans (hb.mono HI.2.2.2.size));clear hb;by_cases hle:A≤0
   ·have p2:(A≤0)=True:=az hle;go_wp2_with fail;exact⟨⟨mid,hi,aa ⟨m2,HI.2.1,HI.2.2.1,HB⟩,rfl,rfl⟩,by show hi-mid<hi-lo;omega⟩
   ·have p2:(A≤0)=False:=bL hle;go_wp2_with fail;have q3:((mid:Int)-1)=((mid-1:Nat):Int):=by omega
    rw[q3];exact⟨⟨lo,mid-1,aa ⟨by omega,by have:=HI.2.1;omega,fun h=>absurd (hO h) (Int.not_le.mpr hle),HB⟩,rfl,rfl⟩,by show (mid-1)-lo<hi-lo;omega⟩
  ·have p1:((lo:Int)<(hi:Int))=False:=bL (by omega);have sW:hi<9218868437227405312:=HI.2.1;have hlh:lo=hi:=by have:=HI.1;omega
   subst hlh;go_wp2_with fail;refine(Fp wr lo (by omega)).mono ?_;rintro e' w1 ⟨rfl,hw⟩;subst w1;have hM:=aa (Ma sW);have hE:=aa (Mc sW);have hA:=aa (Fq (2*Dy lo+1) (AO lo-1) (aA ns) (aA ds));have hT:=aa (fun h:lo=9218868437227405311=>(by subst h;exact acv (aA ns) (aA ds):Il (2*Dy lo+1) (AO lo-1) (aA ns) (aA ds)≤0↔pF*aA ds≤aA ns));have ha:Calls prog 142 #[.int .u64 ((2*Dy lo+1:Nat):Int),.int .i64 (AO lo-1),vn,vd] wr fun e' w'=>e'= .returned (.int .i64 (Il (2*Dy lo+1) (AO lo-1) (aA ns) (aA ds)))∧Below wr.heap.size wr w':=
    zw wr (2*Dy lo+1) (AO lo-1) vn vd ns ds (by have:=hM.out;omega) (by have:=hE.out;omega) (by have:=hE.out;omega) (HN.1.below HI.2.2.2) (HN.2.2.2.2.below HI.2.2.2) HN.2.1 HN.2.2.2.1 HN.2.2.1 Lz Xx
   have HW:=aa ha;clear ha;generalize Il (2*Dy lo+1) (AO lo-1) (aA ns) (aA ds)=A at HW hA hT;generalize Dy lo=M at HW hM ⊢
   generalize AO lo=E at HW hE ⊢
   have bM:M<9007199254740992:=hM;have bE:=hE.out;go_wp2_with fail;have ha2:Calls prog 142 #[.int .u64 (2*(M:Int)+1),.int .i64 (E-1),vn,vd] wr fun e' w'=>e'= .returned (.int .i64 A)∧Below wr.heap.size wr w':=HW
   refine ha2.mono ?_;rintro e' w2 ⟨rfl,hb⟩;have HB:=aa (HI.2.2.2.trans (hb.mono HI.2.2.2.size));clear hb ha2;by_cases X6:lo%2=1
   ·have p2:((lo:Int)%2=1)=True:=az (by omega);have p3:(((lo:Int)%2)==1)=true:=by rw[cn];omega
    rcases hA.out with rfl|rfl|rfl
    all_goals (go_wp2_with fail)
    ·go_ret;exact GF sW HI.2.2.1 hT (by decide) HB
    ·go_ret;exact GF sW HI.2.2.1 hT (by decide) HB
    ·go_ret;exact GG sW HI.2.2.1 hT (fun h=>absurd h (by decide)) HB
   ·have p2:((lo:Int)%2=1)=False:=bL (by omega);have p3:(((lo:Int)%2)==1)=false:=by rw[bK];omega
    rcases hA.out with rfl|rfl|rfl
    all_goals (go_wp2_with fail)
    ·go_ret;exact GF sW HI.2.2.1 hT (by decide) HB
    ·go_ret;exact GG sW HI.2.2.1 hT (fun _=>X6) HB
    ·go_ret;exact GG sW HI.2.2.1 hT (fun _=>X6) HB
def gV (N:Nat) (X:Int):Prop:=pF*10^(-X).toNat≤N*10^X.toNat
theorem TN (h: -X≤K):gV N X↔pF*10^K≤N*10^(X+K).toNat:=by
 unfold gV;have hP:0<10^(K-(-X).toNat):=eX (by omega);have e1:10^K=10^(-X).toNat*10^(K-(-X).toNat):=by rw[←dX];congr 1;omega
 have e2:10^(X+K).toNat=10^X.toNat*10^(K-(-X).toNat):=by rw[←dX];congr 1;omega
 rw[e1,e2,←bV,←bV,yu hP]
theorem AG (h:N≤M) (ho:gV N X):gV M X:=bn ho (fc _ h)
theorem rR:gV (m*10^c) X↔gV m (X+c):=by
 rw[TN (N:=m*10^c) (K:=(-X).toNat) (by omega),TN (N:=m) (K:=(-X).toNat) (by omega),bV,←dX];rw[show c+(X+((-X).toNat:Int)).toNat=(X+c+((-X).toNat:Int)).toNat by omega]
theorem acw:10^308≤pF:=by decide+kernel
theorem acx:pF≤10^309:=by decide+kernel
theorem Md (h:10^a≤N) (hx:309≤X+a):gV N X:=by
 refine AG h ?_;have:=(rR (m:=1) (c:=a) (X:=X)).2;rw[Bi]at this;apply this;unfold gV;rw[show (-(X+(a:Int))).toNat=0 by omega,pK,oC,Bi];exact bn acx (Ox 309 _ (by omega))
theorem oY (h:N≤10^a) (hx:X+a≤307): ¬gV N X:=by
 intro ho;have h1:=AG h ho;have h2:=(rR (m:=1) (c:=a) (X:=X)).1;rw[Bi]at h2;have h3:=h2 h1;unfold gV at h3;rw[Bi]at h3;have h4:=acw;have h5:=Ox (X+(a:Int)).toNat 307 (by omega);have h6:pF*1≤pF*10^(-(X+(a:Int))).toNat:=uj _ (eX (by decide));have h7:=afo 307 308 rfl;rw[h7]at h4;have h8:=ace 307;generalize (10:Nat)^307=Q at h4 h5 h8;generalize (10:Nat)^(X+(a:Int)).toNat=R at h3 h5;omega
theorem Pc: ¬gV 0 X:=by
 unfold gV;rw[yG];have h1:0<pF:=by decide+kernel
 have h2:0<10^(-X).toNat:=eX (by decide);have:=Nat.mul_pos h1 h2;omega
theorem nP (h:k<l.length):dE l (k+1)=jR (dE l k) (an l k):=by
 have:l[k]=an l k:=by rw[an,lf,lB h];rfl
 rw[dE,jM h,yy,this];rfl
structure Rel (l:List UInt8) (k:Nat):Prop where
 nd:(fh l k).nd=(dR l k).nd
 dp:(fh l k).dp=(dR l k).dp
 dot:(fh l k).dot=(dR l k).dot
 pt:(dE l k).Bn=(dR l k).dot
 tu:(fh l k).tu=min (dR l k).nd 19
 num:dn (dR l k).D (dR l k).nd=(dE l k).n
 beh:(dR l k).dot=true→(dR l k).dp=(dR l k).nd-((dE l k).behind:Int)
 asy:(dR l k).dot=false→(dE l k).behind=0
 fg: ∃r,(dE l k).n=(fh l k).fg*10^((dR l k).nd-min (dR l k).nd 19)+r∧r<10^((dR l k).nd-min (dR l k).nd 19)∧((fh l k).tr=false→r=0)
 pos:0<(dR l k).nd→0<(fh l k).fg
 zer:(dR l k).nd=0→(fh l k).fg=0
theorem Ug {l:List UInt8} {m:Nat} (h:lp l m): ∀k,k≤m→Rel l k
 |0,_=>⟨rfl,rfl,rfl,rfl,rfl,rfl,(fun h=>by cases h),(fun _=>rfl),⟨0,rfl,eX (by decide),fun _=>rfl⟩,(fun h=>by simp[ma,ds0]at h),fun _=>rfl⟩
 |k+1,hk=>by
  have hl:=h.1;obtain⟨i1,i2,i3,i4,i5,i6,i7,i8,⟨r,i9,i10,i11⟩,i12,i13⟩:=Ug h k (by omega);have hc:=h.2 k (by omega);have F8:=BG (l:=l) k (by omega);have e1:=iA (l:=l) (k:=k) (by omega);have e2:=mc (l:=l) (k:=k) (by omega);have e3:=nP (l:=l) (k:=k) (by omega);generalize an l k=c at hc e1 e2 e3;generalize fh l k=R at*
  generalize dR l k=D at*
  generalize dE l k=M at*
  obtain⟨Rm,asz,uZ,Rdp,asA,akP,Rtr⟩:=R;obtain⟨DD,Dnd,Ddp,asB⟩:=D;obtain⟨Mn,Mb,Mp⟩:=M;simp only at*
  subst i1 i2 i3 i4 i5;by_cases oy:c.toNat=46
  ·have hd:Mp=false:=by
    rcases hc with hc|hc
    ·have:=aG hc;omega
    ·exact F8 fun j hj=>hc.2 j hj
   have f1:fh l (k+1)=⟨Rm,min uZ 19,uZ,uZ,true,akP,Rtr⟩:=by rw[e1,gG,ar oy]
   have f2:dR l (k+1)=⟨DD,uZ,uZ,true⟩:=by rw[e2,lq,ar oy]
   have f3:dE l (k+1)=⟨Mn,Mb,true⟩:=by rw[e3,jR,ar oy]
   have hb:=i8 hd;refine⟨?_,?_,?_,?_,?_,?_,?_,?_,?_,?_,?_⟩<;>simp only[f1,f2,f3]
   ·exact i6
   ·intro _;omega
   ·intro h;cases h
   ·exact⟨r,i9,i10,i11⟩
   ·exact i12
   ·exact i13
  ·have qR:=aG (hc.resolve_right fun h=>oy h.1);by_cases hz:c.toNat=48∧uZ=0
   ·obtain⟨db,rfl⟩:=hz;have f1:fh l (k+1)=⟨Rm,min 0 19,0,Rdp-1,Mp,true,Rtr⟩:=by rw[e1,gG,af oy,ar ⟨db,rfl⟩]
    have f2:dR l (k+1)=⟨DD,0,Rdp-1,Mp⟩:=by rw[e2,lq,af oy,ar ⟨db,rfl⟩]
    have f3:dE l (k+1)=⟨Mn*10+(c.toNat-48),if Mp=true then Mb+1 else Mb,Mp⟩:=by rw[e3,jR,af oy]
    have hM:Mn=0:=by rw[←i6];rfl
    have hRm:=i13 rfl;refine⟨?_,?_,?_,?_,?_,?_,?_,?_,?_,?_,?_⟩<;>simp only[f1,f2,f3]
    ·rw[hM,db];rfl
    ·intro hp;have:=i7 hp;rw[ar hp];omega
    ·intro hp;rw[hp];exact i8 hp
    ·refine⟨0,?_,by decide,fun _=>rfl⟩;rw[hM,db,hRm];rfl
    ·intro h;omega
    ·intro _;exact hRm
   ·have f2:dR l (k+1)=⟨Hq DD uZ c.toNat,uZ+1,Rdp,Mp⟩:=by rw[e2,lq,af oy,af hz]
    have f3:dE l (k+1)=⟨Mn*10+(c.toNat-48),if Mp=true then Mb+1 else Mb,Mp⟩:=by rw[e3,jR,af oy]
    have zY:dn (Hq DD uZ c.toNat) (uZ+1)=Mn*10+(c.toNat-48):=by
     rw[dn,Jz (E:=DD) uZ fun i hi=>by unfold Hq;rw[af (by omega)],i6];unfold Hq;rw[ar rfl]
    have Tl:Mp=true→(Rdp:Int)=((uZ+1:Nat):Int)-((if Mp=true then Mb+1 else Mb:Nat):Int):=by
     intro hp;have:=i7 hp;rw[ar hp];omega
    have aa3:Mp=false→(if Mp=true then Mb+1 else Mb)=0:=by
     intro hp;rw[hp];exact i8 hp
    by_cases h19:min uZ 19<19
    ·have au:uZ<19:=by omega
     have hm0:uZ-min uZ 19=0:=by omega
     have f1:fh l (k+1)=⟨Rm*10+(c.toNat-48),min uZ 19+1,uZ+1,Rdp,Mp,true,Rtr⟩:=by rw[e1,gG,af oy,af hz,ar h19]
     rw[hm0,pK]at i9 i10;have SY:r=0:=by omega
     refine⟨?_,?_,?_,?_,?_,?_,?_,?_,?_,?_,?_⟩<;>simp only[f1,f2,f3]
     ·omega
     ·exact zY
     ·exact Tl
     ·exact aa3
     ·refine⟨0,?_,eX (by decide),fun _=>rfl⟩;rw[show uZ+1-min (uZ+1) 19=0 by omega,pK,i9,SY];omega
     ·intro _;rcases jK uZ with h0|h0
      ·have:c.toNat≠48:=fun h=>hz ⟨h,h0⟩
       omega
      ·have:=i12 h0;omega
     ·intro h;omega
    ·have lW:19≤uZ:=by omega
     have f1:fh l (k+1)=⟨Rm,min uZ 19,uZ+1,Rdp,Mp,true,Rtr||c.toNat != 48⟩:=by rw[e1,gG,af oy,af hz,af h19]
     rw[qE lW]at i9 i10;refine⟨?_,?_,?_,?_,?_,?_,?_,?_,?_,?_,?_⟩<;>simp only[f1,f2,f3]
     ·omega
     ·exact zY
     ·exact Tl
     ·exact aa3
     ·refine⟨r*10+(c.toNat-48),?_,?_,?_⟩
      ·rw[qE (by omega),show uZ+1-19=(uZ-19)+1 by omega,ef,i9,←bV];generalize Rm*10^(uZ-19)=Q;omega
      ·rw[qE (by omega),show uZ+1-19=(uZ-19)+1 by omega,ef];omega
      ·intro h;simp only[Bool.or_eq_false_iff,IJ]at h;rw[i11 h.1,h.2]
     ·intro _;exact i12 (by omega)
     ·intro h;omega
theorem Zb:10000000000000000000<pF:=by decide+kernel
theorem Pd (hd:0<d) (pE:d≤10000000000000000000) (h0: -345≤p) (h1:p≤310):dS (lk d p)=true↔gV d p:=by
 rw[Q0 hd pE h0 h1];by_cases hp:0≤p
 ·obtain⟨n,rfl⟩: ∃n:Nat,p=(n:Int):=⟨p.toNat,by omega⟩;rw[mq,←O3];unfold gV;rw[show (-(n:Int)).toNat=0 by omega,pK,oC,mq];exact⟨fun h=>h.2,fun h=>⟨by omega,h⟩⟩
 ·have: ¬gV d p:=oY (a:=19) pE (by omega);constructor
  ·rintro⟨h,_⟩;exact absurd h hp
  ·intro h;exact absurd h this
theorem Q7 (hm:lp l (bJ l)) (hl:bJ l≤512) (he: -100009≤fV l∧fV l≤100009):dS (LL l)=true↔gV (dE l (bJ l)).n (fV l-((dE l (bJ l)).behind:Int)):=by
 have hr:=Ug hm (bJ l) (aP _);have Sl:=vR hm (bJ l) (aP _);have hrf:=AA hm (bJ l) (aP _);obtain⟨X,hX⟩: ∃X,X=fV l-((dE l (bJ l)).behind:Int):=⟨_,rfl⟩;obtain⟨i1,i2,i3,i4,i5,i6,i7,i8,⟨r,i9,i10,i11⟩,i12,i13⟩:=hr;have ud:(if (dR l (bJ l)).dot then(dR l (bJ l)).dp else((dR l (bJ l)).nd:Int))+fV l-((dR l (bJ l)).nd:Int)=X:=by
  cases hd:(dR l (bJ l)).dot
  ·have:=i8 hd;simp only[lh,iE];omega
  ·have:=i7 hd;simp only[kJ];omega
 have aa4:dS 0=false:=ke (by decide);rw[←hX];unfold LL;obtain⟨d,hd⟩: ∃d,d=(fh l (bJ l)).fg:=⟨_,rfl⟩;obtain⟨n,hn⟩: ∃n,n=(dR l (bJ l)).nd:=⟨_,rfl⟩;obtain⟨N,hN⟩: ∃N,N=(dE l (bJ l)).n:=⟨_,rfl⟩;have asC:d<10000000000000000000:=by
  have h1:=hrf.fg;rw[←hd]at h1;have h2:(10:Nat)^(fh l (bJ l)).tu≤10^19:=ee (by decide) hrf.tu.1;have h3:(10:Nat)^19=10000000000000000000:=by decide
  omega
 rw[←hn]at i1 i5 i6 i9 i10 i12 i13 ud;rw[←hN]at i6 i9 ⊢
 rw[←hd]at i9 i12 i13 ⊢
 unfold DH;by_cases h0:d=0
 ·rw[ar h0,aa4];have SZ:n=0:=by
   rcases jK n with h|h
   ·exact h
   ·have:=i12 h;omega
  have sZ:N=0:=by rw[←i6,SZ];rfl
  rw[sZ];exact⟨fun h=>(by cases h),fun h=>absurd h Pc⟩
 ·rw[af h0];obtain⟨c,hc⟩: ∃c,c=n-min n 19:=⟨_,rfl⟩;rw[←hc]at i9 i10;have hp:oQ (fh l (bJ l)) (fV l)=X+(c:Int):=by
   unfold oQ;rw[←hd,ar h0,i3,i2,i1,i5];have:((min n 19:Nat):Int)=(n:Int)-c:=by omega
   rw[this];omega
  rw[hp];have low:gV d (X+c)→gV N X:=fun h=>by
   have:=rR.2 h;exact AG (by rw[i9];omega) this
  have high:gV N X→gV (d+1) (X+c):=fun h=>by
   refine rR.1 (AG ?_ h);rw[i9,Nat.succ_mul];omega
  by_cases h1:310<X+(c:Int)
  ·rw[ar h1,uG];exact⟨fun _=>low (Md (a:=0) (by omega) (by omega)),fun _=>rfl⟩
  ·rw[af h1];by_cases h2:X+(c:Int)< -345
   ·rw[ar h2,aa4];exact⟨fun h=>(by cases h),fun h=>absurd (high h) (oY (a:=19) (by omega) (by omega))⟩
   ·rw[af h2];have hpf:=Pd (d:=d) (p:=X+c) (by omega) (by omega) (by omega) (by omega);have akQ:=Pd (d:=d+1) (p:=X+c) (by omega) (by omega) (by omega) (by omega);cases Hw:(fh l (bJ l)).tr
    ·
     rw[af (by simp)];have SY:=i11 Hw;have heq:gV N X↔gV d (X+c):=by rw[i9,SY,iv];exact rR
     cases hex:fH d (X+c)with
     |none=>
      simp only;rw[hpf,heq]
     |some x=>
      simp only;obtain⟨e1,e2,e3⟩:=Na hex;rw[e1,heq];have h16:(4503599627370496:Nat)≤10^16:=by decide
      exact⟨fun h=>(by cases h),fun h=>absurd h (oY (a:=16) (by omega) (by omega))⟩
    ·rw[ar rfl];by_cases ho:(FloatKind.f64.format.order (lk d (X+c)) (lk (d+1) (X+c))==some .eq)=true
     ·rw[ar ho,hpf];refine⟨low,fun h=>?_⟩;have h3:=akQ.2 (high h);have hle:=O4 (d:=d+1) (p:=X+c) (by omega) (by omega) (by omega) (by omega);have h4:lk (d+1) (X+c)=eW:=by
       rcases dD (lk (d+1) (X+c)) eW with au|lW
       ·rw[ke au]at h3;cases h3
       ·omega
      rw[h4]at ho;have h5:=Q1 (O4 (d:=d) (p:=X+c) (by omega) (by omega) (by omega) (by omega)) (by simpa using ho);rw[←hpf,h5];exact uG
     ·rw[af ho];have SZ:0<n:=by
       rcases jK n with h|h
       ·exact absurd (i13 h) h0
       ·exact h
      have ok:(H9 l (bJ l) (fV l)).Ok:=⟨Sl.gQ,(by show 0<(dR l (bJ l)).nd;omega),(by show (dR l (bJ l)).nd≤800;have:=Sl.nd;omega)⟩;obtain⟨f1,f2⟩:=Vg ok;rw[f1,f2];have hSd:(H9 l (bJ l) (fV l)).dp=X+n:=by
       show (if (dR l (bJ l)).dot then(dR l (bJ l)).dp else((dR l (bJ l)).nd:Int))+fV l=_;rw[←hn];omega
      have hSn:(H9 l (bJ l) (fV l)).nd=n:=hn.symm;have F4:pre (H9 l (bJ l) (fV l)).D n n=N:=by rw[T7 _ _ n (aP _)];exact i6
      have asD:n≤512:=by have:=Sl.nd;omega
      have akR:10^(n-1)≤N:=by
       rw[←F4];have:=lN ok.gQ ok.pos (n-1);rw[hSn,IK SZ]at this;exact this
      have akS:N<10^n:=by
       rw[←F4];have:=xE ok.gQ n;rw[hSn]at this;exact this
      have hv:vF (H9 l (bJ l) (fV l))=N*10^(800+(X+n).toNat-n):=by rw[vF,hSn,F4,hSd]
      rw[hSd,hv];have akT:(2^54-1)*2^970=pF:=by rw[pF]
      rw[akT];by_cases g1:310<X+(n:Int)
      ·exact⟨fun _=>Md akR (by omega),fun _=>.inl g1⟩
      ·by_cases g2:X+(n:Int)<0
       ·have tw:=oY (jt akS) (X:=X) (by omega);constructor
        ·rintro(h|⟨h,_⟩)<;>omega
        ·intro h;exact absurd h tw
       ·rw[TN (N:=N) (X:=X) (K:=800) (by omega),show (X+((800:Nat):Int)).toNat=800+(X+n).toNat-n by omega];constructor
        ·rintro(h|⟨_,_,h⟩)
         ·omega
         ·exact h
        ·intro h;exact .inr ⟨by omega,by omega,h⟩
theorem Zc (a:Nat) (c:UInt8):vM a c=(match ep a c with|none=> -1|some b=>(b:Int)):=by
 unfold vM ep
 repeat' split
 all_goals first|rfl|(simp_all;done)|(simp_all<;>omega)
theorem Vo {c:UInt8} (h:ep a c=some b):b≤10:=by
 unfold ep at h
 repeat' split at h
 all_goals first|(injection h with h;omega)|cases h
theorem uJ (s:ByteArray) (w:World) (hs:s.size≤281474976710656):
  Calls prog 111 #[.string s] w fun e w'=>e= .returned (.int .i64 (ag s.data.toList:Nat))∧w=w':=by
 go_enter func111,ntmps111;go_wp2_with fail;go_loop [3,4,5] (fun t3 t4 t5=> ∃a n i:Nat,a≤10∧i≤s.size∧t3= .int .i64 (a:Int)∧t4= .int .i64 (n:Int)∧t5= .int .i64 (i:Int)∧Hid (pf a n i (s.data.toList.drop i)=ag s.data.toList)) (fun _ _ t5=>s.size-(intOf t5).toNat)
 case atStart=>exact⟨0,0,0,by omega,by omega,rfl,rfl,rfl,aa (G7 _)⟩
 case round=>
  obtain⟨a,n,i,ha,hi,rfl,rfl,rfl,gJ⟩:=hrel;by_cases au:i<s.size
  ·have cB:=aa (aq au);have hN:=aa (Zc a s[i]);cases cA:ep a s[i]with
   |none=>
    have hv:vM a s[i]= -1:=by rw[hN.out,cA]
    have akU:=aa cA;clear cA;go_wp2_with (go_at_call 123;refine(JJ a ha _ _).mono ?_;rintro e w' ⟨rfl,rfl⟩;rw[hv]);go_ret;exact⟨aE (by rw[←gJ.out,lQ (by rw[ab];exact au) (by rw[cB.out];exact akU.out)]),rfl⟩
   |some b=>
    have hv:vM a s[i]=(b:Int):=by rw[hN.out,cA]
    have hb:=Vo cA;have hpf:=aa (eV (l:=s.data.toList) (i:=i) (n:=n) (by rw[ab];exact au) (by rw[cB.out];exact cA));clear cA;cases hw:Bt b
    all_goals
     go_wp2_with (first|(go_at_call 123;refine(JJ a ha _ _).mono ?_;rintro e w' ⟨rfl,rfl⟩;rw[hv])|(go_at_call 124;refine(Q6 _ _).mono ?_;rintro e w' ⟨rfl,rfl⟩;rw[hw]))
    ·exact⟨⟨b,n,i+1,hb,au,rfl,rfl,by go_num,aa (by have h:=hpf.out;rw[hw,af (by simp)]at h;rw[←h,gJ.out])⟩,gH au⟩
    ·exact⟨⟨b,i+1,i+1,hb,au,rfl,by go_num,by go_num,aa (by have h:=hpf.out;rw[hw,ar rfl]at h;rw[←h,gJ.out])⟩,gH au⟩
  ·have abp:=aa (rJ (l:=s.data.toList) (a:=a) (n:=n) (i:=i) (by rw[ab];omega));go_wp2_with fail;go_ret;exact⟨aE (by rw[←gJ.out,abp.out]),rfl⟩
def okW (c d:UInt8):Bool:=c.toNat==d.toNat||c.toNat+32==d.toNat
theorem JK (s t:ByteArray) (w:World) (ht:t.size=3) (pG: ∀(i:Nat) (h:i<t.size),97≤t[i].toNat) (V:Bool) (hV:V=true↔s.size=3∧ ∀(i:Nat) (h:i<s.size) (h2:i<t.size),okW s[i] t[i]=true):
  Calls prog 126 #[.string s,.string t] w fun e w'=>e= .returned (.bool V)∧ ∃d,w'=w.drewN d:=by
 have HV:=aa hV;have HS:=aa pG;clear hV pG;by_cases h3:s.size=3
 ·go_enter func126,ntmps126;go_wp2_with fail;go_loopw [5] (fun t5 wr=> ∃k n:Nat,k≤3∧wr=w.drewN n∧t5= .int .i64 (k:Int)∧Hid (∀(i:Nat) (h:i<s.size) (h2:i<t.size),i<k→okW s[i] t[i]=true)) (fun t5 _=>3-(intOf t5).toNat)
  case atStart=>exact⟨0,0,by omega,rfl,rfl,aa (fun _ _ _ h=>by omega)⟩
  case round=>
   obtain⟨k,n,hk,rfl,rfl,XE⟩:=hrel;by_cases au:k<3
   ·have ox:k<s.size:=by omega
    have hkt:k<t.size:=by omega
    have lW:=HS.out k hkt;have ZO:t[k].toNat<256:=mz _;obtain⟨c,hc⟩: ∃c:Nat,c=s[k].toNat:=⟨_,rfl⟩;obtain⟨d,hd⟩: ∃d:Nat,d=t[k].toNat:=⟨_,rfl⟩;have q1:(t[k].toNat-32:Int)%256=(t[k].toNat-32:Int):=by omega
    cases ho:okW s[k] t[k]
    ·have PK: ¬s[k].toNat=t[k].toNat∧ ¬s[k].toNat+32=t[k].toNat:=by simpa [okW]using ho
     have p1:((s[k].toNat:Int) != (t[k].toNat:Int))=true:=by simp;omega
     have p2:((s[k].toNat:Int) != ((t[k].toNat:Int)-32))=true:=by simp;omega
     go_wp2_with fail;go_quiet (fail);go_wp2_with fail;go_ret;exact⟨ah (by rw[eq_comm,←yC];exact fun h=>by have h4:=(HV.out.1 h).2 k ox hkt;rw[ho]at h4;cases h4),_,jN _ _ _⟩
    ·have PK:s[k].toNat=t[k].toNat∨s[k].toNat+32=t[k].toNat:=by simpa [okW]using ho
     by_cases he:s[k].toNat=t[k].toNat
     ·have p1:((s[k].toNat:Int) != (t[k].toNat:Int))=false:=by simp;omega
      go_wp2_with fail;go_quiet (fail);go_wp2_with fail;exact⟨⟨k+1,_,au,rfl,by go_num,aa (fun i h h2 hi=>by
       rcases dD i k with h4|h4
       ·exact XE.out i h h2 h4
       ·have h5:i=k:=by omega
        subst h5;exact ho)⟩,gH au⟩
     ·have p1:((s[k].toNat:Int) != (t[k].toNat:Int))=true:=by simp;omega
      have p2:((s[k].toNat:Int) != ((t[k].toNat:Int)-32))=false:=by simp;omega
      go_wp2_with fail;go_quiet (fail);go_wp2_with fail;exact⟨⟨k+1,_,au,rfl,by go_num,aa (fun i h h2 hi=>by
       rcases dD i k with h4|h4
       ·exact XE.out i h h2 h4
       ·have h5:i=k:=by omega
        subst h5;exact ho)⟩,gH au⟩
   ·have h3':k=3:=by omega
    subst h3';go_wp2_with fail;go_ret;exact⟨ah (Eq.symm (HV.out.2 ⟨h3,fun i h h2=>XE.out i h h2 (by omega)⟩)),_,rfl⟩
 ·go_enter func126,ntmps126;go_wp2_with fail;go_ret;exact⟨ah (by rw[eq_comm,←yC];exact fun h=>h3 (HV.out.1 h).1),0,rfl⟩
theorem akV: ∀c:UInt8,∀d:Fin 256,97≤d.val→d.val≤122→(okW c (UInt8.ofNat d.val)=true↔(c.toNat|||32)=d.val):=by
 intro c;revert c;exact iB (by decide+kernel)
theorem Pe (s:ByteArray) (a b c:UInt8) (ha:97≤a.toNat∧a.toNat≤122) (hb:97≤b.toNat∧b.toNat≤122) (hc:97≤c.toNat∧c.toNat≤122):
  dC s.data.toList a.toNat b.toNat c.toNat=true↔s.size=3∧ ∀(i:Nat) (h:i<s.size) (h2:i<(ByteArray.mk #[a,b,c]).size),okW s[i] (ByteArray.mk #[a,b,c])[i]=true:=by
 have key: ∀x y:UInt8,97≤y.toNat→y.toNat≤122→(okW x y=true↔(x.toNat|||32)=y.toNat):=fun x y h1 h2=>by
  have:=akV x ⟨y.toNat,mz y⟩ h1 h2;simpa using this
 unfold dC;rw[ab];by_cases h3:s.size=3
 ·rw[aq (by omega),aq (by omega),aq (by omega)];simp only[h3,beq_self_eq_true,mA,kF,cn,rz];constructor
  ·rintro⟨⟨h4,h5⟩,h6⟩ i h h2;have hi:i=0∨i=1∨i=2:=by omega
   rcases hi with rfl|rfl|rfl
   ·exact(key _ a ha.1 ha.2).2 h4
   ·exact(key _ b hb.1 hb.2).2 h5
   ·exact(key _ c hc.1 hc.2).2 h6
  ·intro h;exact⟨⟨(key _ a ha.1 ha.2).1 (h 0 (by omega) (by show 0<3;decide)),(key _ b hb.1 hb.2).1 (h 1 (by omega) (by show 1<3;decide))⟩,(key _ c hc.1 hc.2).1 (h 2 (by omega) (by show 2<3;decide))⟩
 ·have:(s.size==3)=false:=by simpa using h3
  rw[this];simp[h3]
theorem GH {l:List UInt8} {m:Nat} (h:lp l m): ∀k,k≤m→(dE l k).n<10^k
 |0,_=>by show (0:Nat)<1;decide
 |k+1,hk=>by
  have ih:=GH h k (by omega);have hl:=h.1;rw[nP (by omega),ef];unfold jR;split
  ·show (dE l k).n<_;omega
  ·rename_i hn;have hd:=aG ((h.2 k (by omega)).resolve_right fun h=>hn h.1);show (dE l k).n*10+_<_;omega
def tooBig (l:List UInt8):Prop:=if aO l=true then pF≤kR l l.length else gV (dE l (bJ l)).n (fV l-((dE l (bJ l)).behind:Int))
theorem Vp (h0:ag l=l.length) (bC:l≠[]) (hl:l.length≤512):vf l=true↔tooBig l:=by
 have pN:0<l.length:=Es.2 bC;unfold vf tooBig jS;cases hh:aO l
 ·rw[af (show ¬(false=true)by simp)];obtain⟨hm,⟨i0,ti,_⟩,he⟩:=mf h0 bC hh;have hX:tZ (an l 1)=false:=by
   rcases dD 1 l.length with h1|h1
   ·exact(AB h0 bC hh h1).1
   ·have:an l 1=0:=by rw[an,lf,En h1];rfl
    rw[this];decide
  cases hs:gX l
  ·simp only[Bool.not_false,mA,lh,iE,hX];have hml:=hm.1;refine Q7 hm (by omega) ?_;unfold fV;split
   ·rename_i au;have hx:I2 l (bJ l) (pS l) (xw l):=by
     rcases he with he|he
     ·omega
     ·exact he.2
    have:=Gd l.length (jt hx.some) (aP _) hx.fe;split<;>omega
   ·omega
  ·simp only[Bool.not_true,rr,lh,false_iff];unfold gX at hs;simp only[kF,uk]at hs;obtain⟨oz,uV⟩:=hs;have ZP:bJ l=l.length:=by
    rcases he with he|⟨h1,he⟩
    ·exact he
    ·exfalso;have hE:=he.tj;have:=rl.1 uV l[bJ l] (gj h1);have ha:l[bJ l]=an l (bJ l):=by rw[an,lf,lB h1];rfl
     rw[ha]at this;have hf:=qm (c:=an l (bJ l)) (by simpa using this);rw[hf]at hE;cases hE
   have hn:=GH hm (bJ l) (aP _);have hv:fV l=0:=by unfold fV;rw[af (by omega)]
   rw[hv];exact oY (a:=bJ l) (jt hn) (by omega)
 ·rw[ar (show true=true from rfl)];obtain⟨h2,h3,h4,h5⟩:=sI h0 hh;have hs:gX l=false:=by
   unfold gX;have:pc l=false:=by
    unfold pc;rw[Ev];refine⟨l[1],gj (by omega),?_⟩;have ha:l[1]'(by omega)=an l 1:=by rw[an,lf,lB (by omega)];rfl
    rw[ha];have fF: ∀c:UInt8,tZ c=true→ ¬(digit c||c.toNat==46)=true:=iB (by decide+kernel);exact fF _ h4
   rw[this,tF]
  simp only[hs,Bool.not_false,mA,lh,iE,h4,kJ];exact Q5 h5 h2
structure xB (w wr:World) (v:Value) (i N:Nat) (es:List Nat):Prop where
 r:pX wr v es
 ok:ek es
 norm:Norm es
 val:aA es=N
 len:es.length≤i
 below:Below w.heap.size w wr
theorem xB.nil (w:World):xB w w (.slice none 0 0) 0 0 []:=
 ⟨⟨none,0,rfl,fun j h=>by simp at h⟩,(fun d h=>by cases h),(fun h=>by simp at h),rfl,aP _,aS _ _⟩
theorem Vq (cC:ek es) (hl:es.length≤i) (hm:m<4294967296) (hc:c<4294967296):aA es*m+c<4294967296^(i+1):=by
 have h1:=qk es cC;have h2:4294967296^es.length≤4294967296^i:=ee (by decide) hl;rw[ef];generalize 4294967296^i=B at*
 have h3:aA es*m≤(B-1)*4294967295:=oH (by omega) (by omega);have h4:(B-1)*4294967295=B*4294967295-4294967295:=by rw[Nat.sub_mul,Bi]
 omega
theorem xB.times (h:xB w wr v i N es) (hm:m<4294967296) (hc:c<4294967296) (hM:M=N*m+c) {e:Ending} (hp:iz wr (aA es*m+c) e w2):
  ∃v2 fs,e= .returned v2∧xB w w2 v2 (i+1) M fs:=by
 obtain⟨⟨v2,fs,rfl,f1,f2,f3,f4⟩,hb⟩:=hp;refine⟨v2,fs,rfl,f1.r,f4,f3,by rw[f2,h.val,hM],mM f3 ?_,h.below.trans (hb.mono h.below.size)⟩;rw[f2];exact Vq h.ok h.len hm hc
theorem xB.more (h:xB w wr v i N es) (hj:i≤j):xB w wr v j N es:=⟨h.r,h.ok,h.norm,h.val,bn h.len hj,h.below⟩
def wu (w:World) (n N:Nat) (X:Int) (e:Ending) (w':World):Prop:=
 ∃v es,e= .returned (.tuple #[v,.int .i64 X])∧xB w w' v n N es
theorem Da (s:ByteArray) (w:World) (hs:s.size≤512) (h2:1<s.size) (hX:tZ s[1]=true) (hd: ∀(i:Nat) (h:i<s.size),2≤i→gS s[i]=true):
  Calls prog 128 #[.string s] w (wu w s.size (kR s.data.toList s.size) 0):=by
 have HD:=aa hd;have HX0:=aa (Fl s.data.toList);have hx:s[1].toNat=120∨s[1].toNat=88:=by simpa [tZ]using hX
 clear hd hX;have hI0:=aa (xB.nil w);rcases hx with hx|hx
 all_goals
  have p1:((s[1].toNat:Int)==120)=decide (s[1].toNat=120):=by rw[eE];simp;omega
  have p2:((s[1].toNat:Int)==88)=decide (s[1].toNat=88):=by rw[eE];simp;omega
  simp only[hx,Nat.reduceEqDiff,decide_true,decide_false]at p1 p2;go_enter func128,ntmps128;go_wp2_with fail;go_loopw [4,5] (fun t4 t5 wr=> ∃(i:Nat) (es:List Nat),i≤s.size∧2≤i∧t5= .int .i64 (i:Int)∧Hid (xB w wr t4 i (kR s.data.toList i) es)) (fun _ t5 _=>s.size-(intOf t5).toNat)
  case atStart=>exact⟨2,[],by omega,by omega,rfl,aa (by rw[HX0.out];exact hI0.more (by omega))⟩
  case round=>
   obtain⟨i,es,hi,xa,rfl,hI⟩:=hrel;by_cases au:i<s.size
   ·have hh:=HD i au xa;obtain⟨x,hx'⟩: ∃x,x=mx s[i]:=⟨_,rfl⟩;have hv:=(mN s[i]).2.2.2.2 hh;rw[hv.2.2,←hx']at hv;have bx:x≤15:=by omega
    have hv':F9 s[i]=(x:Int):=by rw[(mN s[i]).2.2.2.2 hh |>.2.2,hx']
    have HK:=aa (show kR s.data.toList (i+1)=kR s.data.toList i*16+x by rw[Cz xa (by rw[ab];exact au),aq au,hx']);have q1:IntKind.u32.wrap (x:Int)=(x:Int):=by rw[rn];omega
    have ht:=aa (sR wr _ es 16 x hI.r hI.ok (by have:=hI.len;omega) (by decide) (by omega));clear hv hx' hh;go_wp2_with (go_at_call 137;refine(Pa _ _).mono ?_;rintro e w' ⟨rfl,rfl⟩;rw[hv']);have SR:Calls prog 139 #[_,.int .u32 16,.int .u32 (x:Int)] wr (iz wr (aA es*16+x)):=ht;refine SR.mono ?_;intro e w2 hp;obtain⟨v2,fs,rfl,hN⟩:=hI.times (by decide) (by omega) HK hp;have HN:=aa hN;clear hp hN ht SR;go_wp2_with fail;exact⟨⟨i+1,fs,au,by omega,by go_num,HN⟩,gH au⟩
   ·have he:i=s.size:=by omega
    go_wp2_with fail;subst he;go_ret2;exact⟨_,es,rfl,hI⟩
def OA (e:Nat) (c:UInt8):Nat:=if e<100000 then e*10+(c.toNat-48)else e
def Le (l:List UInt8) (j k:Nat):Nat:=((l.drop j).take (k-j)).foldl OA 0
theorem sS (l:List UInt8) (j:Nat):Le l j j=0:=by simp[Le]
theorem JL (hj:j≤k) (h:k<l.length):Le l j (k+1)=OA (Le l j k) (an l k):=by
 have hk:k-j<(l.drop j).length:=by simp;omega
 have:(l.drop j)[k-j]=an l k:=by
  rw[vs,an,lf,lB (by omega)];simp[show j+(k-j)=k by omega]
 rw[Le,show k+1-j=k-j+1 by omega,jM hk,yy,this];rfl
theorem Zd: ∀k,j≤k→k≤l.length→(∀i,j≤i→i<k→digit (an l i)=true)→(Le l j k=zK l j k∨(10000≤Le l j k∧10000≤zK l j k))∧Le l j k≤1000009:=by
 intro k hj;induction k with
 |zero=>
  intro _ _;have:j=0:=by omega
  subst this;simp[sS,pb]
 |succ k ih=>
  intro hk hd;by_cases he:j=k+1
  ·subst he;simp[sS,pb]
  ·obtain⟨h1,h2⟩:=ih (by omega) (by omega) (fun i a b=>hd i a (by omega));have hf:=aG (hd k (by omega) (by omega));rw[JL (by omega) (by omega),wg (by omega) (by omega)];unfold OA mF;constructor
   ·split<;>split<;>omega
   ·split<;>omega
def rX (l:List UInt8):Int:=(if bJ l<l.length then(if xw l=true then-(Le l (pS l) l.length:Int)else(Le l (pS l) l.length:Int))else 0)-((dE l (bJ l)).behind:Int)
theorem sT {l:List UInt8}: ∀k,k≤l.length→(dE l k).behind≤k
 |0,_=>aP _
 |k+1,hk=>by
  have ih:=sT (l:=l) k (by omega);rw[nP (by omega)];unfold jR;split
  ·show (dE l k).behind≤k+1;omega
  ·simp only;split<;>omega
theorem Db (s:ByteArray) (w:World) (hs:s.size≤512) (hX: ∀h:1<s.size,tZ s[1]=false) (m:Nat) (hm:bJ s.data.toList=m) (cC:lp s.data.toList m) (hE:m=s.size∨m<s.size∧I2 s.data.toList m (pS s.data.toList) (xw s.data.toList)):
  Calls prog 128 #[.string s] w (wu w s.size (dE s.data.toList m).n (rX s.data.toList)):=by
 have AP:m≤s.size:=by have:=cC.1;rwa [ab]at this
 have FL:=aa cC;have HE:=aa hE;have HM:=aa hm;have hI0:=aa (xB.nil w);have afD:dE s.data.toList 0=⟨0,0,false⟩:=rfl;have lJ:=aa afD;have HMN:Hid (∀(i:Nat) (h:i<s.size),i<m→tj s[i]=false):=aa (fun i h hi=>by
  rcases cC.2 i hi with h1|h1
  ·rw[←aq h];exact qm (.inl h1)
  ·rw[←aq h];exact qm (.inr h1.1))
 have hx: ¬1<s.size∨ ∃h:1<s.size,((s[1].toNat:Int)==120)=false∧((s[1].toNat:Int)==88)=false:=by
  by_cases h1:1<s.size
  ·refine .inr ⟨h1,?_⟩;have:=hX h1;simp[tZ]at this;constructor<;>simp<;>omega
  ·exact .inl h1
 clear cC hE hm hX afD;rcases hx with h1|⟨h1,p1,p2⟩
 all_goals
  go_enter func128,ntmps128;go_wp2_with fail;go_loopw [4,6,7,8] (fun t4 t6 t7 t8 wr=> ∃(i:Nat) (es:List Nat),i≤m∧t6= .int .i64 (i:Int)∧Hid (xB w wr t4 i (dE s.data.toList i).n es)∧t7= .int .i64 ((dE s.data.toList i).behind:Int)∧t8= .bool (dE s.data.toList i).Bn) (fun _ t6 _ _ _=>s.size-(intOf t6).toNat)
  case atStart=>exact⟨0,[],aT _,rfl,by rw[lJ.out];exact hI0,by rw[lJ.out];rfl,by rw[lJ.out]⟩
  case round=>
   obtain⟨i,es,hi,rfl,hI,rfl,rfl⟩:=hrel;by_cases au:i<m
   ·have mj:i<s.size:=by omega
    have bC:=HMN.out i mj au;have akW: ¬s[i].toNat=101∧ ¬s[i].toNat=69:=by simpa [tj]using bC
    have e1:((s[i].toNat:Int) != 101)=true:=by simp;omega
    have e2:((s[i].toNat:Int) != 69)=true:=by simp;omega
    have sr:=aa (show dE s.data.toList (i+1)=jR (dE s.data.toList i) s[i]by rw[nP (by rw[ab];exact mj),aq mj]);have HC:=aa (show digit s[i]=true∨s[i].toNat=46 by
     rcases FL.out.2 i au with h|h
     ·rw[aq mj]at h;exact .inl h
     ·rw[aq mj]at h;exact .inr h.1)
    clear bC akW;by_cases F8:s[i].toNat=46
    ·have e3:((s[i].toNat:Int)==46)=true:=by simp;omega
     have Ga:Hid (dE s.data.toList (i+1)=⟨(dE s.data.toList i).n,(dE s.data.toList i).behind,true⟩):=aa (by rw[sr.out,jR,ar F8]);clear sr;clear F8;go_wp2_with fail;exact⟨⟨i+1,es,au,by go_num,aa (by rw[Ga.out];exact hI.out.more (by omega)),by rw[Ga.out],by rw[Ga.out]⟩,gH mj⟩
    ·have e3:((s[i].toNat:Int)==46)=false:=by simp;omega
     have qR:=aG (HC.out.resolve_right F8);obtain⟨x,hx⟩: ∃x,x=s[i].toNat-48:=⟨_,rfl⟩;have q1:((s[i].toNat:Int)-48)%256=(x:Int):=by omega
     have q2:IntKind.u32.wrap (x:Int)=(x:Int):=by rw[rn];omega
     have bx:x≤9:=by omega
     have Ga:Hid (dE s.data.toList (i+1)=⟨(dE s.data.toList i).n*10+x,if (dE s.data.toList i).Bn=true then(dE s.data.toList i).behind+1 else(dE s.data.toList i).behind,(dE s.data.toList i).Bn⟩):=aa (by rw[sr.out,jR,af F8,hx]);have ht:=aa (sR wr _ es 10 x hI.out.r hI.out.ok (by have:=hI.out.len;omega) (by decide) (by omega));have HBH:=aa (sT (l:=s.data.toList) i (by rw[ab];omega));clear sr qR hx;clear F8;obtain⟨S,hS⟩: ∃S,S=dE s.data.toList i:=⟨_,rfl⟩;rw[←hS]at Ga hI HBH;rw[←hS];clear hS;have bB:S.behind≤i:=HBH.out;cases hpt:S.Bn
     all_goals
      rw[hpt]at Ga;go_wp2_with fail;have SR:Calls prog 139 #[_,.int .u32 10,.int .u32 (x:Int)] wr (iz wr (aA es*10+x)):=ht.out;refine SR.mono ?_;intro e w2 hp;obtain⟨v2,fs,rfl,hN⟩:=hI.out.times (by decide) (by omega) rfl hp;have HN:=aa hN;clear hp hN ht SR;go_wp2_with fail
     all_goals exact⟨⟨i+1,fs,au,by go_num,aa (by rw[Ga.out];exact HN.out),by rw[Ga.out];rfl,by rw[Ga.out]⟩,gH mj⟩
   ·have he:i=m:=by omega
    subst he;clear hi au;have HBH:=aa (sT (l:=s.data.toList) i (by rw[ab];omega));obtain⟨S,hS⟩: ∃S,S=dE s.data.toList i:=⟨_,rfl⟩;have HRX:=aa (show rX s.data.toList=(if i<s.size then(if xw s.data.toList=true then-(Le s.data.toList (pS s.data.toList) s.size:Int)else(Le s.data.toList (pS s.data.toList) s.size:Int))else 0)-(S.behind:Int)by
     rw[rX,HM.out,ab,hS])
    have HSN:=aa (bT SM.n hS.symm);rw[←hS]at hI HBH;rw[←hS];clear hS;have bB:S.behind≤i:=HBH.out;by_cases ZP:i<s.size
    ·have hE:=HE.out.resolve_left (by omega);have hEx:=hE.2;have hXE:((s[i].toNat:Int)=101)∨((s[i].toNat:Int)=69):=by
      have:=hEx.tj;rw[aq ZP]at this;simp[tj]at this;omega
     have hEX:=aa hEx;clear hE hEx;rcases hXE with hXE|hXE
     all_goals
      have e1:((s[i].toNat:Int) != 101)=decide ((s[i].toNat:Int)≠101):=by rw[eE];simp
      have e2:((s[i].toNat:Int) != 69)=decide ((s[i].toNat:Int)≠69):=by rw[eE];simp
      rw[hXE]at e1 e2;go_wp2_with fail;obtain⟨j,hj⟩: ∃j,j=pS s.data.toList:=⟨_,rfl⟩;obtain⟨sg,XF⟩: ∃b,b=xw s.data.toList:=⟨_,rfl⟩;rw[←hj,←XF]at hEX HRX;clear hj XF;have hjs:j<s.size:=by have:=hEX.out.some;rwa [ab]at this
      have XC:i+1≤j:=by rcases hEX.out.sign with h|h|h<;>omega
      go_loop [6,9,10] (fun t6 t9 t10=> ∃(k p:Nat) (mi:Bool),k≤s.size∧p≤1000009∧t6= .int .i64 (k:Int)∧t9= .int .i64 (p:Int)∧t10= .bool mi∧Hid ((k=i+1∧k<j∧p=0∧mi=false)∨(j≤k∧p=Le s.data.toList j k∧mi=sg))) (fun t6 _ _=>s.size-(intOf t6).toNat)
      case atStart=>
       refine⟨i+1,0,false,ZP,by omega,by go_num,rfl,rfl,aa ?_⟩;by_cases h:i+1<j
       ·exact .inl ⟨rfl,h,rfl,rfl⟩
       ·have he:j=i+1:=by omega
        refine .inr ⟨by omega,by rw[he,sS],?_⟩;rcases hEX.out.sign with h|h|h
        ·exact h.2.1.symm
        ·omega
        ·omega
      case round=>
       obtain⟨k,p,mi,hk,hp,rfl,rfl,rfl,hR⟩:=hrel;by_cases ox:k<s.size
       ·rcases hR.out with⟨lC,zM,rfl,rfl⟩|⟨lC,zM,rfl⟩
        ·have akX:(s[k].toNat=43∧sg=false)∨(s[k].toNat=45∧sg=true):=by
          subst lC;rcases hEX.out.sign with h|h|h
          ·omega
          ·rw[aq ox]at h;exact .inl ⟨h.2.2,h.2.1⟩
          ·rw[aq ox]at h;exact .inr ⟨h.2.2,h.2.1⟩
         have hj2:j=k+1:=by
          rcases hEX.out.sign with h|h|h<;>omega
         have Ef:Hid (Le s.data.toList j (k+1)=0):=aa (by rw[hj2,sS]);have HJ2:=aa hj2;clear hj2 lC zM hR;rcases akX with⟨hc,uV⟩|⟨hc,uV⟩
         all_goals
          have f1:((s[k].toNat:Int)==45)=decide ((s[k].toNat:Int)=45):=by rw[eE];simp
          have f2:((s[k].toNat:Int) != 43)=decide ((s[k].toNat:Int)≠43):=by rw[eE];simp
          rw[hc]at f1 f2;have nt:=aa uV;clear uV;go_wp2_with fail;exact⟨⟨k+1,0,sg,ox,by omega,by go_num,rfl,by rw[nt.out],aa (.inr ⟨by have:=HJ2.out;omega,Ef.out.symm,rfl⟩)⟩,gH ox⟩
        ·have qR:=hEX.out.fe k lC (by rw[ab];exact ox);rw[aq ox]at qR;have Dt:=aG qR;obtain⟨x,hx⟩: ∃x,x=s[k].toNat-48:=⟨_,rfl⟩;have f1:((s[k].toNat:Int)==45)=false:=by simp;omega
         have f2:((s[k].toNat:Int) != 43)=true:=by simp;omega
         have f3:((s[k].toNat:Int)-48)%256=(x:Int):=by omega
         have bx:x≤9:=by omega
         have Ef:Hid (Le s.data.toList j (k+1)=if p<100000 then p*10+x else p):=aa (by rw[JL lC (by rw[ab];exact ox),←zM,aq ox,OA,hx]);have Z6:=aa lC;clear lC zM qR Dt hx;by_cases iI:p<100000
         ·have f4:((p:Int)<100000)=True:=az (by omega);go_wp2_with fail;exact⟨⟨k+1,p*10+x,mi,ox,by omega,by go_num,by apply vi';omega,rfl,aa (.inr ⟨by have:=Z6.out;omega,by rw[Ef.out,ar iI],rfl⟩)⟩,gH ox⟩
         ·have f4:((p:Int)<100000)=False:=bL (by omega);go_wp2_with fail;exact⟨⟨k+1,p,mi,ox,hp,by go_num,rfl,rfl,aa (.inr ⟨by have:=Z6.out;omega,by rw[Ef.out,af iI],rfl⟩)⟩,gH ox⟩
       ·have afE:k=s.size:=by omega
        have Hx:=hR.out.resolve_left (by omega);have akY:Hid (rX s.data.toList=(if mi=true then-(p:Int)else(p:Int))-(S.behind:Int)):=aa (by rw[HRX.out,ar ZP,Hx.2.1,Hx.2.2,afE]);clear hR Hx afE;cases mi
        all_goals
         go_wp2_with fail;rw[akY.out];go_ret2;exact⟨_,es,rfl,by rw[HSN.out];exact hI.out.more AP⟩
    ·go_wp2_with fail;go_loop [6,9,10] (fun t6 t9 t10=>t6= .int .i64 ((i:Int)+1)∧t9= .int .i64 0∧t10= .bool false) (fun _ _ _=>0)
     case atStart=>exact⟨by go_num,rfl,rfl⟩
     case round=>
      obtain⟨rfl,rfl,rfl⟩:=hrel;go_wp2_with fail;rw[HRX.out,af ZP,Int.zero_sub];go_ret2;exact⟨_,es,rfl,by rw[HSN.out];exact hI.out.more AP⟩
def nN (l:List UInt8):Nat:=if aO l=true then kR l l.length else(dE l (bJ l)).n
def nX (l:List UInt8):Int:=if aO l=true then 0 else rX l
theorem Nb (s:ByteArray) (w:World) (hs:s.size≤512) (h0:ag s.data.toList=s.data.toList.length) (bC:s.data.toList≠[]):
  Calls prog 128 #[.string s] w (wu w s.size (nN s.data.toList) (nX s.data.toList)):=by
 cases hh:aO s.data.toList
 ·have h1:nN s.data.toList=(dE s.data.toList (bJ s.data.toList)).n:=by rw[nN,hh,af (by simp)]
  have h2:nX s.data.toList=rX s.data.toList:=by rw[nX,hh,af (by simp)]
  rw[h1,h2];obtain⟨hm,_,he⟩:=mf h0 bC hh;refine Db s w hs (fun h=>?_) _ rfl hm ?_
  ·have:=(AB h0 bC hh (by rw[ab];exact h)).1
   rwa [aq h]at this
  ·rw[ab]at he;exact he
 ·have h1:nN s.data.toList=kR s.data.toList s.size:=by rw[nN,hh,ar rfl,ab]
  have h2:nX s.data.toList=0:=by rw[nX,hh,ar rfl]
  rw[h1,h2];obtain⟨g1,_,g3,g4⟩:=sI h0 hh;rw[ab]at g1;refine Da s w hs (by omega) ?_ (fun i h hi=>?_)
  ·rwa [aq (by omega)]at g3
  ·have:=g4.2 i hi (by rw[ab];exact h)
   rwa [aq h]at this
theorem Pf (h0:ag l=l.length) (bC:l≠[]) (hh:aO l=false) (hl:l.length≤512):
  (rX l=fV l-((dE l (bJ l)).behind:Int)∨(9000≤rX l∧9000≤fV l-((dE l (bJ l)).behind:Int))∨(rX l≤ -10000∧fV l-((dE l (bJ l)).behind:Int)≤ -10000))∧ -2000000≤rX l∧rX l≤2000000:=by
 obtain⟨hm,_,he⟩:=mf h0 bC hh;have hb:=sT (l:=l) (bJ l) hm.1;have hml:=hm.1;unfold rX fV;by_cases au:bJ l<l.length
 ·rw[ar au,ar au];rcases he with he|⟨_,he⟩
  ·omega
  ·obtain⟨h1,h2⟩:=Zd (l:=l) (j:=pS l) l.length (jt he.some) (aP _) he.fe;generalize Le l (pS l) l.length=r at*
   generalize zK l (pS l) l.length=e at*
   split<;>omega
 ·rw[af au,af au];omega
theorem Vr (h0:ag l=l.length) (bC:l≠[]) (hl:l.length≤512): -2000000≤nX l∧nX l≤2000000:=by
 unfold nX;cases hh:aO l
 ·rw[af (by simp)];exact(Pf h0 bC hh hl).2
 ·rw[ar rfl];omega
theorem Ze:0<pF:=Nat.lt_of_lt_of_le (show 0<10000000000000000000 by decide) (jt Zb)
theorem verdict (h0:ag l=l.length) (bC:l≠[]) (hl:l.length≤512):
  (nN l=0→vf l=false)∧(nN l≠0→400<nX l→vf l=true)∧(nX l< -1000→vf l=false)∧(-1000≤nX l→nX l≤400→(vf l=true↔pF*10^(-nX l).toNat≤nN l*10^(nX l).toNat)):=by
 have hi:=Vp h0 bC hl;unfold tooBig at hi;cases hh:aO l
 ·have e1:nN l=(dE l (bJ l)).n:=by rw[nN,hh,af (by simp)]
  have e2:nX l=rX l:=by rw[nX,hh,af (by simp)]
  rw[af (by rw[hh];simp)]at hi;obtain⟨hm,_,_⟩:=mf h0 bC hh;have hml:=hm.1;have hn:=GH hm (bJ l) (aP _);obtain⟨hx,_⟩:=Pf h0 bC hh hl;rw[e1,e2];have hN: ∀b:Bool,¬b=true→b=false:=by decide
  generalize (dE l (bJ l)).n=N at*
  generalize rX l=R at*
  generalize fV l-((dE l (bJ l)).behind:Int)=X at*
  have hn5:N≤10^512:=bn (jt hn) (Ox _ 512 (by omega));refine⟨fun hz=>hN _ fun h=>?_,fun hz hg=>?_,fun hg=>hN _ fun h=>?_,fun g1 g2=>?_⟩
  ·subst hz;exact Pc (hi.1 h)
  ·refine hi.2 (Md (a:=0) (by rw[pK];omega) ?_);rcases hx with hx|hx|hx<;>omega
  ·refine oY (a:=512) hn5 ?_ (hi.1 h);rcases hx with hx|hx|hx<;>omega
  ·have:R=X:=by rcases hx with hx|hx|hx<;>omega
   subst this;exact hi
 ·have e1:nN l=kR l l.length:=by rw[nN,hh,ar rfl]
  have e2:nX l=0:=by rw[nX,hh,ar rfl]
  rw[ar hh]at hi;rw[e1,e2];have hN: ∀b:Bool,¬b=true→b=false:=by decide
  have hp:=Ze;refine⟨fun hz=>hN _ fun h=>?_,fun hz hg=>?_,fun hg=>?_,fun g1 g2=>?_⟩
  ·have:=hi.1 h;rw[hz]at this;exact absurd hp (Nat.not_lt.2 this)
  ·exact absurd hg (by decide)
  ·exact absurd hg (by decide)
  ·rw[show (-(0:Int)).toNat=0 from rfl,show (0:Int).toNat=0 from rfl,pK,oC,oC];exact hi
