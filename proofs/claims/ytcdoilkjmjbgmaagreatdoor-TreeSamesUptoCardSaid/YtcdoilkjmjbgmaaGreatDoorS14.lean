import Derived.Test.YtcdoilkjmjbgmaaGreatDoorS11
import Derived.Test.YtcdoilkjmjbgmaaGreatDoorS13
/- Part of the proof of YtcdoilkjmjbgmaaGreatDoorCardY: TvP TvQ TrRb TrRd TrJb Src. -/
set_option maxRecDepth 100000
set_option maxHeartbeats 4000000
set_option linter.unusedVariables false
set_option linter.unusedSimpArgs false
namespace Go.Proofs.YtcdoilkjmjbgmaaGreatDoor
open Go.RowKit
open Go.Proofs.Tryz
variable {m deep k lo n sz g c b:Nat} {u s:List Nat} {x rs:List PR} {w w' W W' WY:World} {v vo t t':Value} {e:TypeId} {ys ks news:List Value} {ss:List ByteArray} {ms:List PM} {P:Program} {ops:Array Oper} {rest:List Oper} {o:Oper} {a:Act} {Q:Exit→Act→World→Prop}
def gQ:List Nat→List Nat
 |[]=>[]
 |c::s=>c::s.map (· -1)
theorem BM (u:List Nat):(gQ u).length=u.length:=by cases u<;>simp[gQ]
theorem EZ (c:Nat) (s:List Nat):gQ (0::c::s)=0::gQ ((c-1)::s):=rfl
theorem Jt : ∀ u : List Nat, (∀ c ∈ u.tail, 0 < c) → ((∀ c ∈ gQ u, c = 0) ↔ norm u = [])
  | [], _ => by simp [gQ, fL]
  | [0], _ => by simp [gQ, kV]
  | 0 :: c :: s, h => by
    rw[jb,←Jt ((c-1)::s) fun x hx=>h x (AX _ hx),EZ]
    simp
  | (c + 1) :: s, _ => by rw [kW s (by omega)]; simp [gQ]
  termination_by u=>u.length
theorem YH (h: ∀c∈u,c≤m): ∀c∈gQ u,c≤m:=by
 cases u with
 |nil=>exact fun c h=>absurd h (by simp[gQ])
 |cons x s=>
  intro c hc;rcases gL.1 hc with rfl|hc
  ·exact h _ (by simp)
  ·obtain⟨y,hy,rfl⟩:=tz.1 hc;have:=h y (by simp[hy]);omega
theorem fp.depth (h:fp x s deep) (r:PR) (hs:x=[]∨s≠[]):aT [1] (x++[r])=aT [1] x++[s.length+1]:=by
 by_cases hx:x=[]
 ·have h0:=h.none_ hx;subst hx h0;simp[aT,jF]
 ·have hn:s≠[]:=hs.resolve_left hx;rw[(h.more hx [r]).2,sF h.rest hn,aT,jF]
def eW (rs:List PR):Bool:=trees 1 rs&&rs.all fun r=>decide (0≤r.kids)
def ij (rs:List PR):List Nat:=if eW rs=true then aT [1] rs else[]
theorem Cu (h:trees 1 rs=false):eW rs=false:=by unfold eW;rw[h];rfl
theorem Kb (hk:k<rs.length) (h:rs[k].kids<0):eW rs=false:=by
 unfold eW;rw[Bool.and_eq_false_iff];refine .inr (Ef.2 ⟨rs[k],jj hk,by simp;omega⟩)
theorem zb (h:eW rs=true):(ij rs).length=rs.length:=by
 unfold ij;rw[az h];unfold eW at h;rw[kH]at h;exact lS rs [1] h.1
def gZ (w:World) (rs:List PR) (e:Ending) (w':World):Prop:=
 ∃a n c,e= .returned (.tuple #[.slice a n c,.bool (eW rs)])∧w'.ownsRow w.heap.size 3 1 (.slice a n c) (ij rs).length ((ij rs).map s7)∧Below w.heap.size w w'
theorem gZ.no (h:eW rs=false) (hb:Below w.heap.size w w'):gZ w rs (.returned (.tuple #[.slice none 0 0,.bool false])) w':=
 ⟨none,0,0,by rw[h],by unfold ij;rw[h];exact sZ _ _ _ _,hb⟩
structure AI (w:World) (rs:List PR) (k:Nat) (u:List Nat) (v vo:Value) (W:World):Prop where
 le:k≤rs.length
 sh: ∃deep,fp (rs.take k) (norm u) deep
 pos: ∀c∈u.tail,0<c
 LJ:(rs.take k).all (fun r=>decide (0≤r.kids))=true
 own:dK w.heap.size W v (gQ u)
 out:W.ownsRow w.heap.size 3 1 vo k ((aT [1] (rs.take k)).map s7)
 apart:gR v vo
 below:Below w.heap.size w W
 NS:u.length≤k
 kids: ∀c∈u,c≤rs.length
theorem AI.start (w:World) (rs:List PR):AI w rs 0 [] (.slice none 0 0) (.slice none 0 0) w:=
 ⟨aV _,⟨0,by rw[fL];exact fp.start⟩,(fun c h=>by cases h),rfl,dK.nil _ _,sZ _ _ _ _,(fun g h=>by simp[Value.ownBlock]at h),aU _ _,aV _,(fun c h=>by cases h)⟩
theorem AI.len (h:AI w rs k u v vo W):(aT [1] (rs.take k)).length=k:=by
 have:=h.out.1;simpa using this
theorem AI.pop {w:World} {rs:List PR} {k g c n:Nat} {u:List Nat} {vo:Value} {W:World} {x:Nat} {t:List Nat} (h:AI w rs k u (.slice (some ⟨g,0,none⟩) (n+1) c) vo W) (hu:gQ u=x::t) (hx:x=0) (hn:n=t.length):
  ∃u',gQ u'=t∧AI w rs k u' (.slice (some ⟨g,0,none⟩) n c) vo W:=by
 subst hx;have ho:=h.own;rw[hu]at ho;have hp:=ho.pop hn;have ha:gR (.slice (some ⟨g,0,none⟩) n c) vo:=fun q hq=>h.apart q (by simpa [Value.ownBlock]using hq)
 cases u with
 |nil=>cases hu
 |cons y s=>
  cases y with
  |succ y=>simp[gQ]at hu
  |zero=>
   cases s with
   |nil=>
    injection hu with _ ht
    subst ht;refine⟨[],rfl,h.le,?_,(fun c h=>by cases h),h.LJ,hp,h.out,ha,h.below,aV _,(fun c h=>by cases h)⟩;obtain⟨d,hd⟩:=h.sh;exact⟨d,by rw[fL];rwa [kV]at hd⟩
   |cons y s=>
    rw[EZ]at hu;injection hu with _ ht
    subst ht;refine⟨(y-1)::s,rfl,h.le,?_,fun c hc=>h.pos c (AX _ hc),h.LJ,hp,h.out,ha,h.below,by have:=h.NS;simp only[ek]at this ⊢;omega,fun c hc=>?_⟩
    ·obtain⟨d,hd⟩:=h.sh;exact⟨d,by rwa [jb]at hd⟩
    ·rcases gL.1 hc with rfl|hc
     ·have:=h.kids y (by simp);omega
     ·exact h.kids c (by simp[hc])
theorem AI.next (h:AI w rs k u v vo W) (hk:k<rs.length) {r:PR} (hr:r=rs[k]) (hu:norm u=u) (hs:k=0∨u≠[]) (h0:0≤r.kids) (qJ:nk r≤rs.length)
  {v' vo':Value} {W':World} (ho:dK w.heap.size W' v' (gQ (nk r::u))) (ajS:W'.ownsRow w.heap.size 3 1 vo' (k+1) ((aT [1] (rs.take k)++[u.length+1]).map s7)) (ha:gR v' vo') (hb:Below w.heap.size w W'):AI w rs (k+1) (nk r::u) v' vo' W':=by
 have ht:rs.take (k+1)=rs.take k++[r]:=by rw[jO hk,hr]
 obtain⟨d,hd⟩:=h.sh;rw[hu]at hd;have Wn:rs.take k=[]∨u≠[]:=hs.elim (fun h0=>.inl (by rw[h0];rfl)) .inr;refine⟨hk,⟨max d (u.length+1),by rw[ht];exact hd.step r Wn⟩,?_,?_,ho,?_,ha,hb,by have:=h.NS;simp only[ek];omega,?_⟩
 ·have:=BH u h.pos;rw[hu]at this;exact this
 ·rw[ht,ID,h.LJ];simp[h0]
 ·rw[ht,hd.depth r Wn];exact ajS
 ·intro c hc;rcases gL.1 hc with rfl|hc
  ·exact qJ
  ·exact h.kids c hc
theorem AI.full {w:World} {rs:List PR} {k:Nat} {v vo:Value} {W:World} (h:AI w rs k [] v vo W) (hk:k<rs.length) (h0:0<k):eW rs=false:=by
 refine Cu ?_;obtain⟨d,hd⟩:=h.sh;rw[fL]at hd;rw[dU hk];exact hd.full (by intro e;have:=cn List.length e;rw[nO,o8]at this;omega) rfl _ _
theorem AI.done {w:World} {rs:List PR} {u:List Nat} {v vo:Value} {W:World} (h:AI w rs rs.length u v vo W):eW rs=(decide (0<rs.length)&&decide (norm u=[])):=by
 obtain⟨d,hd⟩:=h.sh;have h1:=h.LJ;rw[qO]at hd h1;unfold eW;rw[hd.done,h1,Bool.and_true]
 congr 1
 ·cases rs<;>simp
 ·cases norm u<;>simp
theorem MW (l:List Nat):l=[]∨(∃t,l=0::t)∨ ∃x t,l=x::t∧0<x:=by
 cases l with
 |nil=>exact .inl rfl
 |cons x t=>
  rcases jL x with rfl|h
  ·exact .inr (.inl ⟨t,rfl⟩)
  ·exact .inr (.inr ⟨x,t,rfl,h⟩)
theorem QL (h:gQ u=[]∨ ∃x t,gQ u=x::t∧0<x):norm u=u:=by
 cases u with
 |nil=>exact fL
 |cons c s=>
  rcases h with h|⟨x,t,h,hx⟩
  ·cases h
  ·injection h with h _
   exact kW s (by omega)
structure DpR (w:World) (rs:List PR) (k:Nat) (u:List Nat) (v vo:Value) (W:World):Prop where
 at_: ∃v0 W0,AI w rs k u v0 vo W0
 own:dK w.heap.size W v (u.map (· -1))
 out:W.ownsRow w.heap.size 3 1 vo k ((aT [1] (rs.take k)).map s7)
 apart:gR v vo
 below:Below w.heap.size w W
theorem sJ {u:Value} (h:gR u v):u.ownBlock=none∨u.ownBlock≠v.ownBlock:=by
 cases hu:u.ownBlock with
 |none=>exact .inl rfl
 |some g=>exact .inr fun e=>h g hu e.symm
theorem zd {u:Value} (h:gR t u) (hu:W.ownsRow lo e sz u n ys) (r3:jx t t'∨(t'.ownBlock=some (W.heap.size+1)∧W.grownBy W' none)):gR t' u:=by
 rcases r3 with⟨g,n,m,cap,e1,e2⟩|⟨e1,_⟩
 ·subst e1 e2;exact fun q hq=>h q (by simpa [Value.ownBlock]using hq)
 ·intro q hq tS;rw[e1]at hq;injection hq with hq
  have:=(hu.lt q tS).2;omega
theorem AI.afZ (h:AI w rs k [] v vo W):DpR w rs k [] v vo W:=⟨⟨_,_,h⟩,h.own,h.out,h.apart,h.below⟩
theorem AI.ag0 {x:Nat} {t:List Nat} (h:AI w rs k u (.slice (some ⟨g,0,none⟩) n c) vo W) (hu:gQ u=x::t) (hx:0<x) (hb:w.heap.size≤g):
  DpR w rs k u (.slice (some ⟨g,0,none⟩) n c) vo (W.setCell ⟨g,t.length,none⟩ (.int .i64 ((x:Int)-1))):=by
 have ho:=h.own;rw[hu]at ho;have hm:u.map (· -1)=(x-1)::t:=by
  cases u with
  |nil=>cases hu
  |cons y s=>injection hu with e1 e2;rw[mq,e1,e2]
 have hg: ∀v,W.grownBy (W.setCell ⟨g,t.length,none⟩ v) (some g):=fun v=>⟨rfl,by first|rfl|simp,rfl,by simp,fun k _ bW=>AY W ⟨g,_,none⟩ _ k (by rintro rfl;exact bW rfl)⟩
 rw[show (x:Int)-1=((x-1:Nat):Int)by omega];exact⟨⟨_,_,h⟩,by rw[hm];exact ho.dec (x-1),h.out.kept (hg _) (sJ h.apart.symm),h.apart,h.below.setCell (p:=⟨g,_,none⟩) hb _⟩
theorem DpR.next {w:World} {rs:List PR} {k:Nat} {u:List Nat} {v vo:Value} {W:World} (h:DpR w rs k u v vo W) (hk:k<rs.length) {r:PR} (hr:r=rs[k]) (hu:norm u=u) (hs:k=0∨u≠[]) (h0:0≤r.kids) (qJ:r.kids≤rs.length)
  {v1 vo1:Value} {W1 W2:World} (uW:W1.ownsRow w.heap.size 3 1 vo1 (k+1) ((aT [1] (rs.take k)).map s7++[.int .i64 ((u.length:Int)+1)])) (qf:W.grownBy W1 vo.ownBlock) (qy:jx vo vo1∨(vo1.ownBlock=some (W.heap.size+1)∧W.grownBy W1 none))
  (D5:W2.ownsRow w.heap.size 3 1 v1 (u.length+1) ((u.map (· -1)).reverse.map s7++[.int .i64 r.kids])) (uU:W1.grownBy W2 v.ownBlock) (uP:jx v v1∨(v1.ownBlock=some (W1.heap.size+1)∧W1.grownBy W2 none)):AI w rs (k+1) (nk r::u) v1 vo1 W2:=by
 obtain⟨v0,W0,hi⟩:=h.at_;have a1:gR vo1 v:=zd h.apart.symm h.own qy;have l1:=h.own.kept qf (sJ h.apart);have a2:gR v1 vo1:=zd a1.symm uW uP;have aY:Below w.heap.size w W1:=h.below.grown qf h.below.size fun q hq=>(h.out.lt q hq).1
 have aQ:Below w.heap.size w W2:=aY.grown uU aY.size fun q hq=>(l1.lt q hq).1
 refine hi.next hk hr hu hs h0 (by unfold nk;omega) (dK.push (k:=nk r) (s:=u.map (· -1)) ?_) ?_ a2 aQ
 ·rw[ln,show ((nk r:Nat):Int)=r.kids by unfold nk;omega];exact D5
 ·rw[nQ];exact uW.kept uU (sJ a1)
theorem QM (hk:k<rs.length) (h:(rs.length:Int)<rs[k].kids):eW rs=false:=by
 refine Cu ?_;rw[dU hk];exact Cp (by rw[←dU hk];unfold nk;omega)
theorem MX (h:jr b w v rs) (hlen:rs.length≤1048576):
  Calls prog 10 #[v] w (gZ w rs):=by
 obtain⟨ao,c,rfl,hc⟩:=h;have HC:=ae hc;clear hc;go_enter func10,ntmps10;go_wp2_with fail;go_loopw [4,5,6] (fun t4 t5 t6 wr=> ∃(k:Nat) (u:List Nat),t6= .int .i64 (k:Int)∧Hid (AI w rs k u t4 t5 wr)) (fun _ _ t6 _=>rs.length-(intOf t6).toNat)
 case atStart=>exact⟨0,[],rfl,ae (AI.start w rs)⟩
 case round=>
  obtain⟨k,u,rfl,hI⟩:=hrel;obtain⟨av,cv,rfl⟩:=hI.out.own.sl;obtain⟨a5,n5,c5,rfl⟩:=df hI.out.out;obtain⟨wo,rfl⟩: ∃wo:World,wo=wr:=⟨_,rfl⟩;by_cases aA:k<rs.length
  ·have p1:((k:Int)<(rs.length:Int))=True:=aD (by omega);obtain⟨g,o,rfl,_,hg,vm,vo,vi,vl,_,bf⟩:=HC.out k aA;obtain⟨r,hr⟩: ∃r,r=rs[k]:=⟨_,rfl⟩;have jK:=bf 1 (by omega);rw[←hr]at jK;have HCW:Hid (∀W,Below w.heap.size w W→W.cell? ⟨g,o+k*17+1,none⟩=some (.int .i64 r.kids)):=ae fun W hb=>(hb.cell (p:=⟨g,_,none⟩) hg).trans jK
   have HR:=ae hr;clear bf jK hr hg;go_wp2_with fail;go_loopw [4] (fun t4 wx=> ∃u':List Nat,Hid (AI w rs k u' t4 (.slice a5 n5 c5) wx)) (fun t4 _=>rC t4)
   case atStart=>exact⟨u,hI⟩
   case round=>
    obtain⟨u',hJ⟩:=hrel;obtain⟨a6,c6,hv6⟩:=hJ.out.own.sl;subst hv6;have vf:(gQ u').length≤1048576:=by rw[BM];have:=hJ.out.NS;omega
    have c1:=HCW.out _ hJ.out.below;rcases MW (gQ u')with h0|⟨t,h0⟩|⟨x,t,h0,hx⟩
    rotate_left
    ·have hn:(gQ u').length=t.length+1:=by rw[h0];rfl
     rw[hn]at vf;simp only[hn]at hJ ⊢
     obtain⟨g6,c7,h6,NU,hg6⟩:=hJ.out.own.form.resolve_left (fun h=>by rw[h0]at h;cases h.2);injection h6 with e1 e2 e3
     subst e1 e3;have ho:=hJ.out.own;rw[h0]at ho;have m1:=ho.top.1;have ue:=ho.cap;obtain⟨u2,KT,hD⟩:=hJ.out.pop h0 rfl rfl;have HD:=ae hD;clear ho hD hJ hI e2 KT hn;go_wp2_with fail;exact⟨⟨u2,HD⟩,by simp[rC]⟩
    case' inl=>
     obtain rfl:u'=[]:=by
      cases u' with
      |nil=>rfl
      |cons c s=>cases h0
     simp only[gQ,o8]at hJ ⊢
     have lK:(k=0∧((0:Int)<(k:Int))=False∧(0<k)=False)∨(0<k∧((0:Int)<(k:Int))=True∧(0<k)=True):=by
      rcases jL k with e|e
      ·exact .inl ⟨e,bT (by omega),bT (by omega)⟩
      ·exact .inr ⟨e,aD (by omega),aD e⟩
     rcases lK with⟨e,p2,p3⟩|⟨e,p2,p3⟩
     rotate_left
     ·have HP:=ae (gZ.no (hJ.out.full aA e) hJ.out.below);clear hJ hI;go_wp2_with fail;go_ret2;exact HP.out
     have HJB:=ae hJ.out.below;obtain⟨u',HU,HS,FF⟩: ∃u':List Nat,Hid (norm u'=u')∧Hid (k=0∨u'≠[])∧Hid (DpR w rs k u' (.slice a6 0 c6) (.slice a5 n5 c5) wr):=⟨[],ae fL,ae (.inl e),ae hJ.out.afZ⟩;clear e hJ
    case' inr.inr=>
     have hn:(gQ u').length=t.length+1:=by rw[h0];rfl
     rw[hn]at vf;simp only[hn]at hJ ⊢
     obtain⟨g6,c7,h6,NU,hg6⟩:=hJ.out.own.form.resolve_left (fun h=>by rw[h0]at h;cases h.2);injection h6 with e1 e2 e3
     subst e1 e3;have ho:=hJ.out.own;rw[h0]at ho;have m1:=ho.top.1;have m2:=ho.top.2;have ue:=ho.cap;have q1:((x:Int)==0)=false:=by rw[bN];omega
     have q2:((t.length:Int)+1==0)=false:=by rw[bN];omega
     have lK:0<k:=by
      have h1:=hJ.out.NS;have h2:=BM u';omega
     have p2:((0:Int)<(k:Int))=True:=aD (by omega);have p3:(0<k)=True:=aD lK;have HU:Hid (norm u'=u'):=ae (QL (.inr ⟨x,t,h0,hx⟩));have HS:Hid (k=0∨u'≠[]):=ae (.inr (by rintro rfl;cases h0));have FF:=ae (hJ.out.ag0 h0 hx NU);have HJB:=ae hJ.out.below;have RZ:x≤1048576:=by
      have h1:=YH hJ.out.kids x (by rw[h0];simp);omega
     clear ho hJ e2 hn lK hg6 NU
    all_goals
     clear hI h0;have ajT:(r.kids<0)∨((rs.length:Int)<r.kids)∨(0≤r.kids∧r.kids≤rs.length):=by omega
     rcases ajT with hk|hk|⟨mP,zE⟩
     ·have HP:=ae (gZ.no (Kb aA (by rw[←HR.out];exact hk)) HJB.out);have k1:(r.kids<0)=True:=aD hk;clear hk;go_wp2_with fail;go_ret2;exact HP.out
     ·have HP:=ae (gZ.no (QM aA (by rw[←HR.out];exact hk)) HJB.out);have k1:(r.kids<0)=False:=bT (by omega);have k2:((rs.length:Int)<r.kids)=True:=aD hk;clear hk;go_wp2_with fail;go_ret2;exact HP.out
     ·have k1:(r.kids<0)=False:=bT (by omega);have k2:((rs.length:Int)<r.kids)=False:=bT (by omega);go_upto_if 58 with(fail)
      go_cut [4]from 56 to 66 (fun t4 wx=> ∃a4 n4 c4,t4= .slice a4 n4 c4∧Hid (DpR w rs k u' (.slice a4 n4 c4) (.slice a5 n5 c5) wx))
      case first=>
       go_wp2_with fail;go_meet;exact⟨_,_,_,rfl,FF⟩
      case rest=>
       obtain⟨a4,n4,c4,rfl,hR⟩:=hcut;obtain rfl:n4=u'.length:=by
        obtain⟨_,_,e⟩:=hR.out.own.sl;injection e with _ e _
        rw[e,ln]
       have hul:u'.length≤1048576:=by
        obtain⟨v0,W0,hi⟩:=hR.out.at_;have:=hi.NS;omega
       have ab7:=ae hR.out.out;have HRS:Hid (w.heap.size≤wc.heap.size):=ae hR.out.below.size;have HK:=ae (And.intro mP zE);clear mP zE c1;go_wp2_with ((at_builtin;refine lT rfl (.tmp 67) (.tmp 71) 33 rfl w.heap.size 3 (.int .i64 0) 1 8 BI underlying33 rfl (by decide) _ k _ rfl ab7.out [.int .i64 ((u'.length:Int)+1)] rfl rfl (zL rfl) (by unfold maxLen;omega) (by omega) HRS.out ?_));intro vo1 W5 uW qf qy;obtain⟨a7,n7,c7,rfl⟩:=df uW;obtain⟨ys,hys⟩: ∃ys,ys=(u'.map (· -1)).reverse.map s7:=⟨_,rfl⟩;have ag1:Hid (W5.ownsRow w.heap.size 3 1 (.slice a4 u'.length c4) u'.length ys):=ae (by
        have:=hR.out.own.kept qf (sJ hR.out.apart);rw[ln]at this;rw[hys];exact this)
       have HYS:=ae hys;have mW:Hid (Below w.heap.size w W5):=ae (hR.out.below.grown qf hR.out.below.size fun q hq=>(hR.out.out.lt q hq).1);have c1:=HCW.out _ mW.out;have H1:=ae (And.intro uW (And.intro qf qy));clear uW qf qy hys;go_wp2_with ((at_builtin;refine lT rfl (.tmp 73) (.tmp 79) 33 rfl w.heap.size 3 (.int .i64 0) 1 8 BI underlying33 rfl (by decide) _ u'.length _ rfl ag1.out [.int .i64 r.kids] rfl rfl (zL rfl) (by unfold maxLen;omega) (by omega) mW.out.size ?_));intro v1 W6 D5 uU uP;obtain⟨a8,n8,c8,rfl⟩:=df D5;rw[HYS.out]at D5;have HN:=ae (hR.out.next aA HR.out HU.out HS.out HK.out.1 HK.out.2 H1.out.1 H1.out.2.1 H1.out.2.2 D5 uU uP);clear D5 uU uP;go_wp2_with fail;exact⟨⟨k+1,nk r::u',by go_num,HN⟩,gF aA⟩
  ·have p1:((k:Int)<(rs.length:Int))=False:=bT (by omega);obtain rfl:k=rs.length:=by have:=hI.out.le;omega
   have HD:=ae hI.out.done;have aeS:=ae (Jt u hI.out.pos);have vf:(gQ u).length≤1048576:=by rw[BM];have:=hI.out.NS;omega
   have FW:=ae hI.out.own;have HB:=ae hI.out.below;have ab7:=ae hI.out.out;clear hI;go_wp2_with fail;go_loopw [7] (fun t7 wx=> ∃j:Nat,t7= .int .i64 (j:Int)∧wx=wo∧Hid (j≤(gQ u).length∧ ∀i (h:i<(gQ u).length),i<j→(gQ u).reverse[i]'(by simpa using h)=0)) (fun t7 _=>(gQ u).length-(intOf t7).toNat)
   case atStart=>exact⟨0,rfl,rfl,ae ⟨aV _,fun i _ h=>absurd h (IE _)⟩⟩
   case round=>
    obtain⟨j,rfl,rfl,hJ⟩:=hrel;by_cases hj:j<(gQ u).length
    ·have q1:((j:Int)<((gQ u).length:Int))=True:=aD (by omega);obtain⟨g6,c7,h6,_,hg6⟩:=FW.out.form.resolve_left (fun h=>by rw[h.2]at hj;simp at hj);injection h6 with e1 e2 e3
     subst e1 e3;obtain⟨x,hx⟩: ∃x,x=(gQ u).reverse[j]'(by simpa using hj):=⟨_,rfl⟩;have c0:wr.cell? ⟨g6,j,none⟩=some (.int .i64 (x:Int)):=by
      rw[It FW.out j (by simpa using hj),hx];exact(lJ (by simpa using hj)).trans (by rw[List.getElem_map];rfl)
     have HX:=ae hx;by_cases h0:x=0
     ·have q2:((0:Int)<(x:Int))=False:=bT (by omega);have q3:(0<x)=False:=bT (by omega);have HN:Hid (j+1≤(gQ u).length∧ ∀i (h:i<(gQ u).length),i<j+1→(gQ u).reverse[i]'(by simpa using h)=0):=ae ⟨hj,fun i h hi=>by
       by_cases Xq:i<j
       ·exact hJ.out.2 i h Xq
       ·obtain rfl:i=j:=by omega
        rw[←HX.out,h0]⟩
      clear h0 hx hJ;go_wp2_with fail;go_roundw
      case rel=>exact⟨j+1,by go_num,by first|rfl|trivial,HN⟩
      case measure=>simp[intOf];omega
     ·have q2:((0:Int)<(x:Int))=True:=aD (by omega);have q3:(0<x)=True:=aD (by omega);have HP:=ae (gZ.no (w:=w) (rs:=rs) (by
       rw[HD.out,Bool.and_eq_false_iff];refine .inr (gj fun e=>h0 ?_);exact aeS.out.2 e x (by rw[hx];exact List.mem_reverse.1 (jj _))) HB.out)
      clear h0 hx hJ;go_wp2_with fail;go_ret2;exact HP.out
    ·have q1:((j:Int)<((gQ u).length:Int))=False:=bT (by omega);have hz:norm u=[]:=aeS.out.1 fun c hc=>by
      obtain⟨i,hi,rfl⟩:=List.mem_iff_getElem.1 (List.mem_reverse.2 hc);rw[List.length_reverse]at hi;exact hJ.out.2 i hi (by omega)
     have HDB:Hid (eW rs=decide (0<rs.length)):=ae (by rw[HD.out,hz];simp);have HP:Hid (gZ w rs (.returned (.tuple #[.slice a5 n5 c5,.bool (decide (0<rs.length))])) wr):=ae (by
      refine⟨a5,n5,c5,by rw[HDB.out],?_,HB.out⟩;have ho:=ab7.out;rw[qO]at ho;unfold ij;rw[HDB.out];rcases jL rs.length with h|h
      ·obtain rfl:=o6.1 h;exact ho
      ·have h2:=ho.1;simp only[ln]at h2;rw[az (dO h),show (aT [1] rs).length=rs.length by omega];exact ho)
     clear hz hJ;have hl:(((0:Int)<(rs.length:Int))=False∧(0<rs.length)=False∧rs.length=0)∨(((0:Int)<(rs.length:Int))=True∧(0<rs.length)=True∧0<rs.length):=by
      rcases jL rs.length with h|h
      ·exact .inl ⟨bT (by omega),bT (by omega),h⟩
      ·exact .inr ⟨aD (by omega),aD (by omega),h⟩
     rcases hl with⟨l1,l2,l3⟩|⟨l1,l2,l3⟩
     ·rw[gj (by omega)]at HP;clear l3;go_wp2_with fail;go_ret2;exact HP.out
     ·rw[dO l3]at HP;clear l3;go_wp2_with fail;go_ret2;exact HP.out
theorem U1 (w:World) (kids:Int) (op text bU step off tim:ByteArray) (bool given on without:Bool) (card:Int) (ms:List PM) (mls inc labels:List ByteArray) (am ao ai al:Option Addr) (nm cm no co ni ci nl cl:Nat)
  (h:bA 0 w ⟨4,kids,op,text,ms,bU,step,off,tim,bool,given,on,mls,card,inc,without,labels⟩ (.slice am nm cm) (.slice ao no co) (.slice ai ni ci) (.slice al nl cl)):
  Calls prog 77 #[.agg #[.int .i64 4,.int .i64 kids,.string op,.string text,.slice am nm cm,.string bU,.string step,.string off,.string tim,.bool bool,.bool given,.bool on,.slice ao no co,.int .i64 card,.slice ai ni ci,.bool without,.slice al nl cl]] w (qo w (gd ⟨4,kids,op,text,ms,bU,step,off,tim,bool,given,on,mls,card,inc,without,labels⟩)):=by
 have HL:=ae h;clear h;go_enter func77,ntmps77;go_wp2_with (refine ax rfl 46 (.tmp 2) (.tmp 40) rfl (w.heap.size+1) _ rfl rfl (ft _ _ _ _) aL rfl rfl ?_);intro W' hz jm;go_wp2_with fail;exact cB (bh results77 rfl hz underlying46 aL) rfl (nU (r:=gd ⟨4,kids,op,text,ms,bU,step,off,tim,bool,given,on,mls,card,inc,without,labels⟩) (m:=(.slice am nm cm)) (o:=(.slice ao no co)) (i:=(.slice ai ni ci)) (l:=(.slice al nl cl)) (by simp only[gd,bA];simp;exact⟨HL.out.1,HL.out.2.1,HL.out.2.2.1,HL.out.2.2.2⟩) jm (by simp[gd,et,eS]))
theorem U2 (w:World) (kids:Int) (op text bU step off tim:ByteArray) (bool given on without:Bool) (card:Int) (ms:List PM) (mls inc labels:List ByteArray) (am ao ai al:Option Addr) (nm cm no co ni ci nl cl:Nat)
  (h:bA 0 w ⟨5,kids,op,text,ms,bU,step,off,tim,bool,given,on,mls,card,inc,without,labels⟩ (.slice am nm cm) (.slice ao no co) (.slice ai ni ci) (.slice al nl cl)):
  Calls prog 77 #[.agg #[.int .i64 5,.int .i64 kids,.string op,.string text,.slice am nm cm,.string bU,.string step,.string off,.string tim,.bool bool,.bool given,.bool on,.slice ao no co,.int .i64 card,.slice ai ni ci,.bool without,.slice al nl cl]] w (qo w (gd ⟨5,kids,op,text,ms,bU,step,off,tim,bool,given,on,mls,card,inc,without,labels⟩)):=by
 have HL:=ae h;clear h;go_enter func77,ntmps77;go_wp2_with (refine ax rfl 46 (.tmp 2) (.tmp 40) rfl (w.heap.size+1) _ rfl rfl (ft _ _ _ _) aL rfl rfl ?_);intro W' hz jm;go_wp2_with fail;exact cB (bh results77 rfl hz underlying46 aL) rfl (nU (r:=gd ⟨5,kids,op,text,ms,bU,step,off,tim,bool,given,on,mls,card,inc,without,labels⟩) (m:=(.slice am nm cm)) (o:=(.slice ao no co)) (i:=(.slice ai ni ci)) (l:=(.slice al nl cl)) (by simp only[gd,bA];simp;exact⟨HL.out.1,HL.out.2.1,HL.out.2.2.1,HL.out.2.2.2⟩) jm (by simp[gd,et,eS]))
theorem U3 (w:World) (kids:Int) (op text bU step off tim:ByteArray) (bool given on without:Bool) (card:Int) (ms:List PM) (mls inc labels:List ByteArray) (am ao ai al:Option Addr) (nm cm no co ni ci nl cl:Nat)
  (h:bA 0 w ⟨6,kids,op,text,ms,bU,step,off,tim,bool,given,on,mls,card,inc,without,labels⟩ (.slice am nm cm) (.slice ao no co) (.slice ai ni ci) (.slice al nl cl)):
  Calls prog 77 #[.agg #[.int .i64 6,.int .i64 kids,.string op,.string text,.slice am nm cm,.string bU,.string step,.string off,.string tim,.bool bool,.bool given,.bool on,.slice ao no co,.int .i64 card,.slice ai ni ci,.bool without,.slice al nl cl]] w (qo w (gd ⟨6,kids,op,text,ms,bU,step,off,tim,bool,given,on,mls,card,inc,without,labels⟩)):=by
 have HL:=ae h;clear h;go_enter func77,ntmps77;go_wp2_with (refine ax rfl 46 (.tmp 2) (.tmp 40) rfl (w.heap.size+1) _ rfl rfl (ft _ _ _ _) aL rfl rfl ?_);intro W' hz jm;go_wp2_with fail;exact cB (bh results77 rfl hz underlying46 aL) rfl (nU (r:=gd ⟨6,kids,op,text,ms,bU,step,off,tim,bool,given,on,mls,card,inc,without,labels⟩) (m:=(.slice am nm cm)) (o:=(.slice ao no co)) (i:=(.slice ai ni ci)) (l:=(.slice al nl cl)) (by simp only[gd,bA];simp;exact⟨HL.out.1,HL.out.2.1,HL.out.2.2.1,HL.out.2.2.2⟩) jm (by simp[gd,et,eS]))
theorem U4 (w:World) (k:Int) (h1: ¬k=1) (h2: ¬k=2) (h3: ¬k=3) (h4: ¬k=4) (h5: ¬k=5) (h6: ¬k=6) (h7: ¬k=7) (h8: ¬k=8) (h9: ¬k=9) (kids:Int) (op text bU step off tim:ByteArray) (bool given on without:Bool) (card:Int) (ms:List PM) (mls inc labels:List ByteArray) (am ao ai al:Option Addr) (nm cm no co ni ci nl cl:Nat)
  (h:bA 0 w ⟨k,kids,op,text,ms,bU,step,off,tim,bool,given,on,mls,card,inc,without,labels⟩ (.slice am nm cm) (.slice ao no co) (.slice ai ni ci) (.slice al nl cl)):
  Calls prog 77 #[.agg #[.int .i64 k,.int .i64 kids,.string op,.string text,.slice am nm cm,.string bU,.string step,.string off,.string tim,.bool bool,.bool given,.bool on,.slice ao no co,.int .i64 card,.slice ai ni ci,.bool without,.slice al nl cl]] w (qo w (gd ⟨k,kids,op,text,ms,bU,step,off,tim,bool,given,on,mls,card,inc,without,labels⟩)):=by
 have HL:=ae h;have b1:(k==1)=false:=by simpa using h1
 have b2:(k==2)=false:=by simpa using h2
 have b3:(k==3)=false:=by simpa using h3
 have b4:(k==4)=false:=by simpa using h4
 have b5:(k==5)=false:=by simpa using h5
 have b6:(k==6)=false:=by simpa using h6
 have b7:(k==7)=false:=by simpa using h7
 have b8:(k==8)=false:=by simpa using h8
 have b9:(k==9)=false:=by simpa using h9
 clear h;go_enter func77,ntmps77;go_wp2_with (refine ax rfl 46 (.tmp 2) (.tmp 40) rfl (w.heap.size+1) _ rfl rfl (ft _ _ _ _) aL rfl rfl ?_);intro W' hz jm;go_wp2_with fail;exact cB (bh results77 rfl hz underlying46 aL) rfl (nU (r:=gd ⟨k,kids,op,text,ms,bU,step,off,tim,bool,given,on,mls,card,inc,without,labels⟩) (m:=(.slice am nm cm)) (o:=(.slice ao no co)) (i:=(.slice ai ni ci)) (l:=(.slice al nl cl)) (by simp only[gd,bA,h1,h2,h3,h4,h5,h6,h7,h8,h9];simp;exact⟨HL.out.1,HL.out.2.1,HL.out.2.2.1,HL.out.2.2.2⟩) jm (by simp[gd,et,eS,h1,h2,h3,h4,h5,h6,h7,h8,h9]))
def iZ (b:Nat) (w w':World):Prop:=w.heap.size≤w'.heap.size∧ ∀k,b≤k→k<w.heap.size→w'.heap[k]? =w.heap[k]?
theorem iZ.cell {b:Nat} {w w':World} (h:iZ b w w') {g o:Nat} (hb:b≤g) (hg:g<w.heap.size):w'.cell? ⟨g,o,none⟩=w.cell? ⟨g,o,none⟩:=World.cell?_of_block (h.2 g hb hg)
theorem iZ.refl (b:Nat) (w:World):iZ b w w:=⟨aS _,fun _ _ _=>rfl⟩
theorem iZ.below (h:iZ b w w') (hb:Below w'.heap.size w' WY):iZ b w WY:=⟨bR h.1 hb.size,fun k h1 h2=>(hb.block k (iv h2 h.1)).trans (h.2 k h1 h2)⟩
def Off (b:Nat) (w:World) (v:Value):Prop:= ∀q,v.ownBlock=some q→q<b∨w.heap.size≤q
theorem iZ.grow (h:iZ b w w') (hg:w'.grownBy WY v.ownBlock) (ho:Off b w v):iZ b w WY:=
 ⟨bR h.1 hg.size,fun k h1 h2=>(hg.block k (iv h2 h.1) (fun e=>by rcases ho k e.symm with h3|h3<;>omega)).trans (h.2 k h1 h2)⟩
theorem cO.agree (h:cO b w v ss) (hB:iZ b w w'):cO b w' v ss:=by
 obtain⟨ao,c,h1,h2⟩:=h;refine⟨ao,c,h1,fun j hj=>?_⟩;obtain⟨g,o,a,l,u,x⟩:=h2 j hj;exact⟨g,o,a,l,iv u hB.1,(hB.cell l u).trans x⟩
theorem fV.agree (h:fV b w v ms) (hB:iZ b w w'):fV b w' v ms:=by
 obtain⟨ao,c,h1,h2⟩:=h;refine⟨ao,c,h1,fun j hj=>?_⟩;obtain⟨g,o,a,l,u,x,y,z⟩:=h2 j hj;exact⟨g,o,a,l,iv u hB.1,(hB.cell l u).trans x,(hB.cell l u).trans y,(hB.cell l u).trans z⟩
theorem pw.agree (h:pw b w v ks) (hB:iZ b w w'):pw b w' v ks:=by
 obtain⟨ao,c,h1,h2⟩:=h;refine⟨ao,c,h1,fun j hj=>?_⟩;obtain⟨g,o,a,l,u,x⟩:=h2 j hj;exact⟨g,o,a,l,iv u hB.1,(hB.cell l u).trans x⟩
theorem ba.agree {b:Nat} {w w':World} {v:Value} {r:PR} {ks:List Value} (h:ba b w v r ks) (hB:iZ b w w'):ba b w' v r ks:=by
 cases h with
 |number g hb hg t c0=>exact .number g hb (iv hg hB.1) t ((hB.cell hb hg).trans c0)
 |text g hb hg t c0=>exact .text g hb (iv hg hB.1) t ((hB.cell hb hg).trans c0)
 |selector g hb hg t off tim vm ms hm c0 c1 c2 c3=>exact .selector g hb (iv hg hB.1) t off tim vm ms (hm.agree hB) ((hB.cell hb hg).trans c0) ((hB.cell hb hg).trans c1) ((hB.cell hb hg).trans c2) ((hB.cell hb hg).trans c3)
 |range g hb hg d p c0 c1=>exact .range g hb (iv hg hB.1) d p ((hB.cell hb hg).trans c0) ((hB.cell hb hg).trans c1)
 |subquery g hb hg d s off tim t x c0 c1 c2 c3 c4=>exact .subquery g hb (iv hg hB.1) d s off tim t x ((hB.cell hb hg).trans c0) ((hB.cell hb hg).trans c1) ((hB.cell hb hg).trans c2) ((hB.cell hb hg).trans c3) ((hB.cell hb hg).trans c4)
 |unary g hb hg o t x c0 c1=>exact .unary g hb (iv hg hB.1) o t x ((hB.cell hb hg).trans c0) ((hB.cell hb hg).trans c1)
 |binary g hb hg o t u x y bo gi on vl vi ls inc card hl hi c0 c1 c2 c3 c4 c5 c6 c7 c8=>exact .binary g hb (iv hg hB.1) o t u x y bo gi on vl vi ls inc card (hl.agree hB) (hi.agree hB) ((hB.cell hb hg).trans c0) ((hB.cell hb hg).trans c1) ((hB.cell hb hg).trans c2) ((hB.cell hb hg).trans c3) ((hB.cell hb hg).trans c4) ((hB.cell hb hg).trans c5) ((hB.cell hb hg).trans c6) ((hB.cell hb hg).trans c7) ((hB.cell hb hg).trans c8)
 |call g hb hg o va ks hk c0 c1=>exact .call g hb (iv hg hB.1) o va ks (hk.agree hB) ((hB.cell hb hg).trans c0) ((hB.cell hb hg).trans c1)
 |aggr g hb hg o t x wo vl ls hl c0 c1 c2 c3 c4=>exact .aggr g hb (iv hg hB.1) o t x wo vl ls (hl.agree hB) ((hB.cell hb hg).trans c0) ((hB.cell hb hg).trans c1) ((hB.cell hb hg).trans c2) ((hB.cell hb hg).trans c3) ((hB.cell hb hg).trans c4)
 |aggr2 g hb hg o t u x y wo vl ls hl c0 c1 c2 c3 c4=>exact .aggr2 g hb (iv hg hB.1) o t u x y wo vl ls (hl.agree hB) ((hB.cell hb hg).trans c0) ((hB.cell hb hg).trans c1) ((hB.cell hb hg).trans c2) ((hB.cell hb hg).trans c3) ((hB.cell hb hg).trans c4)
theorem dJ.agree {b:Nat} {w w':World} (hB:iZ b w w') {d:Nat} {v:Value} {L:List (Nat×PR)} (h:dJ b w d v L):dJ b w' d v L:=by
 induction h with
 |mk d v r ks cP h0 _ ih=>exact .mk d v r ks cP (h0.agree hB) fun i hi=>ih i hi
def AQ (k:Nat) (w:World) (v:Value) (m:Nat) (news:List Value):Prop:=
 ∃ao c,v= .slice ao m c∧news.length=m*k∧(∀u∈news,u.oneCell'=true)∧((ao=none∧m=0)∨ ∃ad,ao=some ad∧ ∀j u,news[j]? =some u→w.cell? (ad.add j)=some u)
theorem AQ.below (h:AQ k w v m news) (hb:Below w.heap.size w w'):AQ k w' v m news:=by
 obtain⟨ao,c,h1,h2,h3,h4⟩:=h;refine⟨ao,c,h1,h2,h3,h4.imp id ?_⟩;rintro⟨ad,e,h5⟩;refine⟨ad,e,fun j u hu=>?_⟩;have h6:=h5 j u hu;refine(hb.cell ?_).trans h6;rcases dE (ad.add j).block w.heap.size with aA|lW
 ·exact aA
 ·unfold World.cell? at h6;rw[AW lW]at h6;simp at h6
theorem s8 (base:Nat) (t ty e:TypeId) (i:TypeInfo) (size:Nat) (ht:P.underlying t=some (.slice e)) (hi:P.info? e=some i)
  (v:Value) (n c:Nat) (xs:List Value) (aP:w.ownsRow base e size v n xs):
  (Builtin.append_ #[t,t] ty #[v,.slice none 0 c]).run P w= .ok v w:=by
 rcases aP.2 with⟨rfl,rfl⟩|⟨g,cap,cur,rfl,_,_,hnc,_⟩
 ·simp[Builtin.append_,run_underlying ht,sizeOf,typeInfo,hi,Builtin.lenOf,Builtin.firstCells]
 ·simp[Builtin.append_,run_underlying ht,sizeOf,typeInfo,hi,Builtin.lenOf,Builtin.firstCells,hnc,storeCells]
theorem CU (w:World) (base:Nat) (t ty e:TypeId) (z:Value) (size bytes:Nat) (mz:(P.info? e).map (fun i=>(i.zero,i.size,i.bytes))=some (some z,size,bytes)) (ht:P.underlying t=some (.slice e))
  (Ll:z.cells.size=size) (iI:0<size) (v:Value) (n:Nat) (xs:List Value) (aP:w.ownsRow base e size v n xs) (u:Value) (m:Nat) (news:List Value) (ab8:AQ size w u m news)
  (ud:n+m≤maxLen) (hb:(n+m)*bytes≤140737488355328) (cT:base≤w.heap.size):
  ∃v' w',(Builtin.append_ #[t,t] ty #[v,u]).run P w= .ok v' w'∧w'.ownsRow base e size v' (n+m) (xs++news)∧w.grownBy w' v.ownBlock:=by
 obtain⟨i,hi,hz,Pf,KS⟩:=lF mz;obtain⟨ao,c,rfl,hl,h1,h2⟩:=ab8;rcases h2 with⟨rfl,rfl⟩|⟨ad,rfl,hc⟩
 ·have h0:news=[]:=o6.1 (by simpa using hl);subst h0;refine⟨v,w,s8 base t ty e i size ht hi v n c xs aP,by simpa using aP,rfl,rfl,rfl,aS _,fun _ _ _=>rfl⟩
 ·obtain⟨v',w',hr,ho,hg,_⟩:=run_append_own (P:=P) w base t ty e i z size bytes ht hi hz Pf KS Ll iI v n xs aP ad m c news hl hc h1 ud hb cT;exact⟨v',w',hr,ho,hg⟩
theorem fY 
  (hg:o.guard=none) (s x:Operand) (t:TypeId) (ye:o.op=Op.call {callee:=Callee.builtin Builtin.append,args:=#[s,x],argTypes:=#[t,t]})
  (base:Nat) (e:TypeId) (z:Value) (size bytes:Nat) (mz:(P.info? e).map (fun i=>(i.zero,i.size,i.bytes))=some (some z,size,bytes)) (h1:P.underlying t=some (.slice e)) (Ll:z.cells.size=size) (iI:0<size)
  (v:Value) (n:Nat) (xs:List Value) (hs:a.eval s=v) (aP:w.ownsRow base e size v n xs) (u:Value) (m:Nat) (news:List Value) (hx:a.eval x=u) (ab8:AQ size w u m news)
  (ud:n+m≤maxLen) (hb:(n+m)*bytes≤140737488355328) (cT:base≤w.heap.size)
  (hK: ∀v' w',w'.ownsRow base e size v' (n+m) (xs++news)→w.grownBy w' v.ownBlock→wpList P ops Q rest (a.put o.dst v') w'):
  wpList P ops Q (o::rest) a w:=by
 refine wpList_plain hg fun K yg=>?_
 obtain⟨v',w',hr,r1,r2⟩:=CU (P:=P) w base t o.type e z size bytes mz h1 Ll iI v n xs aP u m news ab8 ud hb cT;unfold Oper.wp execOp;simp only[ye,resolve,invoke,builtin,vy,yA,AZ,List.map_toArray,mq,mY,hs,hx,hr];exact yg _ _ (hK v' w' r1 r2)
theorem fV.src (h:fV b w v ms):AQ 3 w v ms.length (ms.flatMap vh):=by
 obtain⟨ao,c,rfl,hc⟩:=h;refine⟨ao,c,rfl,rD vh 3 (fun _=>rfl) ms,fun u hu=>?_,?_⟩
 ·obtain⟨m,_,hm⟩:=IB.1 hu;simp only[vh,gL,ll,iX]at hm;rcases hm with rfl|rfl|rfl<;>rfl
 ·cases ms with
  |nil=>cases ao with
   |none=>exact .inl ⟨rfl,rfl⟩
   |some a=>exact .inr ⟨a,rfl,fun j u hu=>by simp at hu⟩
  |cons m ms=>
   obtain⟨g,o,rfl,_⟩:=hc 0 (by simp);refine .inr ⟨_,rfl,fun j u hu=>?_⟩;rw[lE];refine pQ vh 3 (fun _=>rfl) (by decide) (m::ms) w g o (fun j hj i hi=>?_) j u hu;obtain⟨g',o',he,_,_,x,y,z⟩:=hc j hj;cases he
   match i,hi with
   |0,_=>exact x
   |1,_=>exact y
   |2,_=>exact z
