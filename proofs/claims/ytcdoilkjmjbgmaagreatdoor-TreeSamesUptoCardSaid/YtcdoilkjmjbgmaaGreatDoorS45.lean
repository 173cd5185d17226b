import Derived.Test.YtcdoilkjmjbgmaaGreatDoorS51
/- Part of the proof of YtcdoilkjmjbgmaaGreatDoorCardY: TsZ TgA TkL. -/
set_option maxRecDepth 100000
set_option maxHeartbeats 4000000
set_option linter.unusedVariables false
set_option linter.unusedSimpArgs false
namespace Go.Proofs.YtcdoilkjmjbgmaaGreatDoor
open Go.RowKit
open Go.Proofs.Tryz
variable {w w' w1 wr W1 W2:World} {rs:List PR} {n k b B:Nat} {T:Nat→World→Prop} {card:Int} {op text:ByteArray} {b1 b2 b3 b4:Bool} {r:PR} {v vv v' vm:Value} {L:List (Nat×PR)} {zs:List (zP×Value)}
def jv (rs:List PR):List (Nat×PR):=if cE rs=0 then ng 1 rs else[]
theorem Rw (w:World) (p:Addr) (u:Value):iZ (p.block+1) w (w.setCell p u):=⟨by simp,fun k hk _=>AY w p u k (by omega)⟩
def gy (w:World) (rs:List PR) (e:Ending) (w':World):Prop:=
 ∃v,e= .returned (.tuple #[.agg #[v],.int .i64 (cE rs:Nat)])∧eO w.heap.size w' v (jv rs)∧Below w.heap.size w w'
theorem gy.none_ (h:cE rs=n) (hn:n≠0) (hb:Below w.heap.size w w'):gy w rs (.returned (.tuple #[.agg #[.nilIface],.int .i64 (n:Nat)])) w':=
 ⟨.nilIface,by rw[h],.inl ⟨rfl,by unfold jv;rw[h,ah hn]⟩,hb⟩
theorem eO.lo {b b':Nat} {w:World} {v:Value} {L:List (Nat×PR)} (h:eO b w v L) (hb:b'≤b):eO b' w v L:=h.elim .inl fun h=>.inr (h.lo hb)
theorem uH (hT:pv (fun _=>True) T) {w:World} {v:Value} {rs:List PR} (h:ey w v rs) (hlen:rs.length≤1048576) (o3: ∀r∈rs,ju r) (kp:T w.heap.size w):
  Calls prog 9 #[v] w (gy w rs):=by
 have HS:Hid (∀W,Below w.heap.size w W→Calls prog 31 #[v] W (iW W rs)):=ae fun W hb=>KF hT (ND hT) (h.1.below hb) hlen o3 (hT.mono (hT.fQ kp hb) hb.size)
 have HB:Hid (∀W,Below w.heap.size w W→w.heap.size+1≤W.heap.size→dB rs=true→Calls prog 32 #[v] W (j9 (w.heap.size+1) w W 1 rs [])):=ae fun W hb hl hs=>by
  obtain⟨h1,h2,h3⟩:=jg hs;exact CD rs.length _ w rs [] W 1 v (aS _) hl hb (by rw[nR];exact h) h1 (fun r hr=>⟨qS.1 h2 r hr,(o3 r hr).len⟩) (by rw[nR];exact h3) (by rw[nR];omega)
 have Fy:Below w.heap.size w (w.alloc (.cells #[.nilIface] 29)):=(aU _ w).alloc (aS _) _;have PA:=ae Fy;have HZ0:=ae (aM.new w 29 #[.nilIface]);clear h o3 kp Fy;go_enter func9,ntmps9;go_wp2_with fail;refine(HS.out _ PA.out).mono ?_;rintro e w1 ⟨d,ok,rfl,cH,hd,aY⟩;have cF:=ae (PA.out.trans (aY.mono PA.out.size));have hz:=HZ0.out.below aY HZ0.out.lt;have oY:=ae hz;have c0:=hz.cell 0;have f0:=hz.frozen 0;simp at c0;have s0:=hz.lt;clear hz aY;cases ok with
 |false=>
  have HP:Hid (∀W,Below w.heap.size w W→gy w rs (.returned (.tuple #[.agg #[.nilIface],.int .i64 (120:Nat)])) W):=ae fun W hb=>gy.none_ (by unfold cE;rw[←cH];rfl) (by decide) hb
  clear cH hd;go_wp2_with fail;refine cB (v:=.tuple #[.agg #[.nilIface],.int .i64 (120:Nat)]) ?_ rfl (HP.out _ ?_)
  ·simp[results,results9,go_sem,c0]
  ·exact cF.out.setCell (p:=⟨w.heap.size,0,none⟩) (aS _) _
 |true=>
  have XE:=cH.symm;obtain rfl:=hd rfl;have tV:=jg XE;by_cases TF:128<iD rs
  ·have p1:((128:Int)<(iD rs:Int))=True:=aD (by omega);have HP:Hid (∀W,Below w.heap.size w W→gy w rs (.returned (.tuple #[.agg #[.nilIface],.int .i64 (3:Nat)])) W):=ae fun W hb=>gy.none_ (Ct XE TF) (by decide) hb
   clear cH hd XE tV TF;go_wp2_with fail;refine cB (v:=.tuple #[.agg #[.nilIface],.int .i64 (3:Nat)]) ?_ rfl (HP.out _ ?_)
   ·simp[results,results9,go_sem,c0]
   ·exact cF.out.setCell (p:=⟨w.heap.size,0,none⟩) (aS _) _
  ·have p1:((128:Int)<(iD rs:Int))=False:=bT (by omega);have HSH:=ae XE;have he:cE rs=0:=rG.2 ⟨XE,by omega⟩;have HE:=ae he;clear cH hd XE tV TF he;go_wp2_with fail;refine(HB.out _ cF.out oY.out.lt HSH.out).mono ?_;rintro e w2 ⟨nv,sv,rfl,yK,_,aQ⟩;obtain⟨tt,gg,rfl⟩:=yK.iface;have hz:=oY.out.below aQ oY.out.lt;have c1:=hz.cell 0;have f1:=hz.frozen 0;simp at c1;have s1:=hz.lt;have bF:=ae (cF.out.trans (aQ.mono cF.out.size));have HTR:=ae yK;clear hz aQ yK;go_wp2_with fail;have HF:Hid (gy w rs (.returned (.tuple #[.agg #[.iface tt (.pointer (some ⟨gg,0,none⟩))],.int .i64 (0:Nat)])) (w2.setCell ⟨w.heap.size,0,none⟩ (.iface tt (.pointer (some ⟨gg,0,none⟩))))):=ae ⟨_,by rw[HE.out],.inr (by
    rw[jv,az HE.out];exact(HTR.out.agree (Rw w2 ⟨w.heap.size,0,none⟩ (.iface tt (.pointer (some ⟨gg,0,none⟩))))).lo (Nat.le_succ _)),bF.out.setCell (p:=⟨w.heap.size,0,none⟩) (aS _) _⟩
   refine cB (v:=.tuple #[.agg #[.iface tt (.pointer (some ⟨gg,0,none⟩))],.int .i64 (0:Nat)]) ?_ rfl HF.out;simp[results,results9,go_sem,c1]
theorem Fu (h:cE rs=0):jv rs=ng 1 rs:=by unfold jv;rw[az h]
theorem NG (h:cE rs=0):qq (jv rs)=iD rs:=by
 rw[Fu h];unfold qq iD;rw[GO (jg (rG.1 h).1).1]
theorem Fv (h:cE rs=0):(jv rs).map (·.2)=rs:=by
 rw[Fu h,Cs (jg (rG.1 h).1).1]
theorem wE (h:cE rs=0):(jv rs).length=rs.length:=by
 have:=cn List.length (Fv h)
 rwa [ln]at this
theorem rT {k n:Int} (h1:op.size≤1048576) (h2:text.size≤1048576):ju ⟨k,n,op,text,[],⟨#[]⟩,⟨#[]⟩,⟨#[]⟩,⟨#[]⟩,b1,b2,b3,[],card,[],b4,[]⟩:=by
 have h0:ByteArray.size ⟨#[]⟩≤1048576:=by decide
 exact⟨h1,h2,h0,h0,h0,h0,by simp,by simp,by simp,by simp,by simp,by simp,by simp,by simp⟩
theorem KI: ∀r∈xA,ju r:=by
 intro r hr;simp only[xA,gL,ll,iX]at hr;rcases hr with rfl|rfl|rfl
 ·exact rT (by decide) (by decide)
 ·exact rT (by decide) (by decide)
 ·exact rT (by decide) (by decide)
def Il:Value:=.slice none 0 0
theorem uI (h1:r.ms=[]) (h2:r.mls=[]) (h3:r.inc=[]) (h4:r.labels=[]):bA b w r Il Il Il Il:=by
 unfold bA;rw[h1,h2,h3,h4];exact⟨xL b w,jc b w,jc b w,jc b w⟩
def pL (r:PR):RV:=⟨r,Il,Il,Il,Il⟩
def CF (w:World) (e:Ending) (w':World):Prop:= ∃v,e= .returned v∧ey w' v xA∧Below w.heap.size w w'
theorem KJ (w:World):Calls prog 28 #[] w (CF w):=by
 have HF:Hid (∀cs:Array Value,cs=([pL F7,pL F8,pL F9].flatMap rvC).toArray→CF w (.returned (.slice (some ⟨w.heap.size,0,none⟩) 3 3)) (w.alloc (.cells cs 46))):=ae fun cs bf=>by
  subst bf;have ho:=yr (base:=w.heap.size) (e:=46) (size:=17) w ([pL F7,pL F8,pL F9].flatMap rvC).toArray 3 (aS _) (by decide) (by rfl);refine⟨_,rfl,ey.jt (b:=w.heap.size) (e:=46) (xs:=[pL F7,pL F8,pL F9]) (by simpa using ho) ?_,(aU _ w).alloc (aS _) _⟩;intro x hx;simp only[gL,ll,iX]at hx;rcases hx with rfl|rfl|rfl
  ·exact uI rfl rfl rfl rfl
  ·exact uI rfl rfl rfl rfl
  ·exact uI rfl rfl rfl rfl
 go_enter func28,ntmps28;go_wp2_with fail;go_ret;exact HF _ rfl
theorem V0 (hb:Below B w w1) (hB:B≤w1.heap.size) (v:Value):Below B w (w1.alloc (.cells #[v] 29))∧aM (w1.alloc (.cells #[v] 29)) w1.heap.size 29 #[v]∧Below w1.heap.size w1 (w1.alloc (.cells #[v] 29)):=
 ⟨hb.alloc hB _,aM.new _ _ _,(aU _ w1).alloc (aS _) _⟩
theorem eO.some_ (h:eO b w v (jv rs)) (he:cE rs=0): ∃t g,v= .iface t (.pointer (some ⟨g,0,none⟩)):=by
 rcases h with⟨_,h⟩|h
 ·have:=wE he;rw[h]at this;obtain⟨r,t,rfl,_⟩:=sE (jg (rG.1 he).1).1;simp at this
 ·exact h.iface
theorem KL (hT:pv (fun _=>True) T) (w:World) (kp:T w.heap.size w):Calls prog 7 #[] w (aF w true):=by
 have HBU:=ae fun(W:World) v (hb:Below w.heap.size w W) (h:ey W v xA)=>uH hT h (by decide) KI (hT.mono (hT.fQ kp hb) hb.size)
 clear kp;go_enter func7,ntmps7;go_wp2_with fail;refine(KJ w).mono ?_;rintro e w1 ⟨v,rfl,hr,aY⟩;have HR:=ae hr;have cF:=ae aY;clear hr aY;go_wp2_with fail;refine(HBU _ _ cF HR).mono ?_;rintro e w2 ⟨vx,rfl,hx,aQ⟩;obtain⟨t,g,rfl⟩:=hx.some_ jh;have oc:=cF.trans (aQ.mono cF.size);obtain⟨k1,k2,k3⟩:=V0 oc oc.size (.iface t (.pointer (some ⟨g,0,none⟩)));have HX:=ae ((hx.lo (aV _)).below k3);obtain⟨W3,SN⟩: ∃W3,W3=w2.alloc (.cells #[.iface t (.pointer (some ⟨g,0,none⟩))] 29):=⟨_,rfl⟩;rw[←SN]at k1 k2 HX;rw[jh];have SL:=ae SN;have Su:=ae k1;have H8:=ae k2;have c0:=k2.cell 0;simp at c0;have l0:=k2.lt;have HD:Hid (∀W,Below W3.heap.size W3 W→Calls prog 14 #[.agg #[.iface t (.pointer (some ⟨g,0,none⟩))]] W (kt W 2)):=ae fun W h=>by
  have:=Nw (HX.below h) (by rw[wE jh];decide);rw[NG jh,MV]at this;exact this
 have HN:Hid (∀W,Below W3.heap.size W3 W→Calls prog 15 #[.agg #[.iface t (.pointer (some ⟨g,0,none⟩))]] W (kt W 3)):=ae fun W h=>by
  have:=Nx (HX.below h) (by rw[wE jh];decide);rw[wE jh]at this;exact this
 clear hx aQ oc k1 k2 k3 SN;go_upto_region 2 with(fail)
 rw[←SL.out];go_wp2_with (first|(go_at_call 14;(with_reducible refine(HD.out _ (aU _ _)).mono ?_);rintro e W4 ⟨rfl,fe⟩;have d0:W4.cell? ⟨w2.heap.size,0,none⟩=some (.iface t (.pointer (some ⟨g,0,none⟩))):=(fe.cell (p:=⟨w2.heap.size,0,none⟩) l0).trans (H8.cell 0);have ml:=ae fe;clear fe)|(go_at_call 15;(with_reducible refine(HN.out _ ml.out).mono ?_);rintro e W5 ⟨rfl,lj⟩;have mW:=ae (Su.trans ((ml.trans (lj.mono ml.size)).mono Su.size));clear lj));go_ret;exact⟨rfl,mW⟩
theorem xV:(prog.info? 29).map (·.size)=some 1:=by kernel_rfl
theorem eO.one (h:eO b w v L):v.oneCell'=true:=by
 rcases h with⟨rfl,_⟩|h
 ·rfl
 ·obtain⟨t,g,rfl⟩:=h.iface;rfl
def abx (w:World) (rs:List PR) (k:Nat) (vv:Value) (W:World):Prop:=
 ∃zs:List (zP×Value),zs.map (·.1)=lx (rs.take k)∧W.ownsRow w.heap.size 60 4 vv zs.length (zs.flatMap Dy)∧(∀z∈zs,xq w.heap.size W z.2 z.1.ms)∧Below w.heap.size w W
theorem abx.len {w W:World} {vv:Value} (h1:zs.map (·.1)=lx (rs.take k)):zs.length≤rs.length:=by
 have e:=cn List.length h1;rw[ln]at e;have:(lx (rs.take k)).length≤(rs.take k).length:=by
  unfold lx;rw[ln];exact List.length_filter_le _ _
 rw[nO]at this;omega
theorem abx.push (h1:zs.map (·.1)=lx (rs.take k)) (ho:wr.ownsRow w.heap.size 60 4 vv zs.length (zs.flatMap Dy)) (hm: ∀z∈zs,xq w.heap.size wr z.2 z.1.ms) (hb:Below w.heap.size w wr)
  (hk:k<rs.length) (hr:r=rs[k]) (h3:r.kind=3) (aY:Below wr.heap.size wr W1) (hv:xq wr.heap.size W1 vm r.ms) (D5:W2.ownsRow w.heap.size 60 4 v' (zs.length+1) (zs.flatMap Dy++[.string r.text,vm,.string r.off,.string r.tim])) (hg:W1.grownBy W2 vv.ownBlock):abx w rs (k+1) v' W2:=by
 subst hr;have uW:=bJ ho aY;refine⟨zs++[(⟨rs[k].text,rs[k].ms,rs[k].off,rs[k].tim⟩,vm)],?_,?_,?_,(hb.trans (aY.mono hb.size)).grown hg (bR hb.size aY.size) (fun q hq=>(uW.lt q hq).1)⟩
 ·rw[nQ,mq,mY,jO hk,zy,az h3,h1]
 ·rw[ym,iF];simpa [Dy]using D5
 ·intro z hz;rcases qV.1 hz with hz|hz
  ·exact(bJ (hm z hz) aY).kept hg (iU (bJ (hm z hz) aY) uW (by decide))
  ·rw[xg.1 hz];exact cr (hv.kept hg (iU hv uW (by decide))) hb.size
