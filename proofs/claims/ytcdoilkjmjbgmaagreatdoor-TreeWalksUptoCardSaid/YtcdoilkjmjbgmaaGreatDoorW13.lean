import Derived.Test.YtcdoilkjmjbgmaaGreatDoorW10
import Derived.Test.YtcdoilkjmjbgmaaGreatDoorW12
/- Part of the proof of YtcdoilkjmjbgmaaGreatDoorCardX: TvP TvQ TrRb TrRd TrJb Src. -/
set_option maxRecDepth 100000
set_option maxHeartbeats 4000000
set_option linter.unusedVariables false
set_option linter.unusedSimpArgs false
namespace Go.Proofs.YtcdoilkjmjbgmaaGreatDoor
open Go.RowKit
open Go.Proofs.Tryz
variable {m deep k lo n sz g c b:Nat} {u s:List Nat} {x rs:List PR} {w w' W W' ZJ:World} {v vo t t':Value} {e:TypeId} {ys ks news:List Value} {ss:List ByteArray} {ms:List PM} {P:Program} {ops:Array Oper} {rest:List Oper} {o:Oper} {a:Act} {Q:Exit→Act→World→Prop}
def gT:List Nat→List Nat
 |[]=>[]
 |c::s=>c::s.map (· -1)
theorem BS (u:List Nat):(gT u).length=u.length:=by cases u<;>simp[gT]
theorem Ff (c:Nat) (s:List Nat):gT (0::c::s)=0::gT ((c-1)::s):=rfl
theorem JF : ∀ u : List Nat, (∀ c ∈ u.tail, 0 < c) → ((∀ c ∈ gT u, c = 0) ↔ norm u = [])
  | [], _ => by simp [gT, fJ]
  | [0], _ => by simp [gT, kT]
  | 0 :: c :: s, h => by
    rw[jj,←JF ((c-1)::s) fun x hx=>h x (A6 _ hx),Ff]
    simp
  | (c + 1) :: s, _ => by rw [kV s (by omega)]; simp [gT]
  termination_by u=>u.length
theorem YU (h: ∀c∈u,c≤m): ∀c∈gT u,c≤m:=by
 cases u with
 |nil=>exact fun c h=>absurd h (by simp[gT])
 |cons x s=>
  intro c hc;rcases gq.1 hc with rfl|hc
  ·exact h _ (by simp)
  ·obtain⟨y,hy,rfl⟩:=vD.1 hc;have:=h y (by simp[hy]);omega
theorem fk.depth (h:fk x s deep) (r:PR) (hs:x=[]∨s≠[]):aR [1] (x++[r])=aR [1] x++[s.length+1]:=by
 by_cases hx:x=[]
 ·have h0:=h.none_ hx;subst hx h0;simp[aR,jF]
 ·have hn:s≠[]:=hs.resolve_left hx;rw[(h.more hx [r]).2,sL h.rest hn,aR,jF]
def eU (rs:List PR):Bool:=trees 1 rs&&rs.all fun r=>decide (0≤r.kids)
def da (rs:List PR):List Nat:=if eU rs=true then aR [1] rs else[]
theorem Cw (h:trees 1 rs=false):eU rs=false:=by unfold eU;rw[h];rfl
theorem Kl (hk:k<rs.length) (h:rs[k].kids<0):eU rs=false:=by
 unfold eU;rw[Bool.and_eq_false_iff];refine .inr (Ev.2 ⟨rs[k],gj hk,by simp;omega⟩)
theorem zj (h:eU rs=true):(da rs).length=rs.length:=by
 unfold da;rw[ar h];unfold eU at h;rw[kF]at h;exact lS rs [1] h.1
def ik (w:World) (rs:List PR) (e:Ending) (w':World):Prop:=
 ∃a n c,e= .returned (.tuple #[.slice a n c,.bool (eU rs)])∧w'.ownsRow w.heap.size 3 1 (.slice a n c) (da rs).length ((da rs).map pV)∧Below w.heap.size w w'
theorem ik.no (h:eU rs=false) (hb:Below w.heap.size w w'):ik w rs (.returned (.tuple #[.slice none 0 0,.bool false])) w':=
 ⟨none,0,0,by rw[h],by unfold da;rw[h];exact ur _ _ _ _,hb⟩
structure AN (w:World) (rs:List PR) (k:Nat) (u:List Nat) (v vo:Value) (W:World):Prop where
 le:k≤rs.length
 sh: ∃deep,fk (rs.take k) (norm u) deep
 pos: ∀c∈u.tail,0<c
 LR:(rs.take k).all (fun r=>decide (0≤r.kids))=true
 own:dM w.heap.size W v (gT u)
 out:W.ownsRow w.heap.size 3 1 vo k ((aR [1] (rs.take k)).map pV)
 apart:cJ v vo
 below:Below w.heap.size w W
 NX:u.length≤k
 kids: ∀c∈u,c≤rs.length
theorem AN.start (w:World) (rs:List PR):AN w rs 0 [] (.slice none 0 0) (.slice none 0 0) w:=
 ⟨aT _,⟨0,by rw[fJ];exact fk.start⟩,(fun c h=>by cases h),rfl,dM.nil _ _,ur _ _ _ _,(fun g h=>by simp[Value.ownBlock]at h),aS _ _,aT _,(fun c h=>by cases h)⟩
theorem AN.len (h:AN w rs k u v vo W):(aR [1] (rs.take k)).length=k:=by
 have:=h.out.1;simpa using this
theorem AN.pop {w:World} {rs:List PR} {k g c n:Nat} {u:List Nat} {vo:Value} {W:World} {x:Nat} {t:List Nat} (h:AN w rs k u (.slice (some ⟨g,0,none⟩) (n+1) c) vo W) (hu:gT u=x::t) (hx:x=0) (hn:n=t.length):
  ∃u',gT u'=t∧AN w rs k u' (.slice (some ⟨g,0,none⟩) n c) vo W:=by
 subst hx;have ho:=h.own;rw[hu]at ho;have hp:=ho.pop hn;have ha:cJ (.slice (some ⟨g,0,none⟩) n c) vo:=fun q hq=>h.apart q (by simpa [Value.ownBlock]using hq)
 cases u with
 |nil=>cases hu
 |cons y s=>
  cases y with
  |succ y=>simp[gT]at hu
  |zero=>
   cases s with
   |nil=>
    injection hu with _ ht
    subst ht;refine⟨[],rfl,h.le,?_,(fun c h=>by cases h),h.LR,hp,h.out,ha,h.below,aT _,(fun c h=>by cases h)⟩;obtain⟨d,hd⟩:=h.sh;exact⟨d,by rw[fJ];rwa [kT]at hd⟩
   |cons y s=>
    rw[Ff]at hu;injection hu with _ ht
    subst ht;refine⟨(y-1)::s,rfl,h.le,?_,fun c hc=>h.pos c (A6 _ hc),h.LR,hp,h.out,ha,h.below,by have:=h.NX;simp only[dI]at this ⊢;omega,fun c hc=>?_⟩
    ·obtain⟨d,hd⟩:=h.sh;exact⟨d,by rwa [jj]at hd⟩
    ·rcases gq.1 hc with rfl|hc
     ·have:=h.kids y (by simp);omega
     ·exact h.kids c (by simp[hc])
theorem AN.next (h:AN w rs k u v vo W) (hk:k<rs.length) {r:PR} (hr:r=rs[k]) (hu:norm u=u) (hs:k=0∨u≠[]) (h0:0≤r.kids) (nU:nk r≤rs.length)
  {v' vo':Value} {W':World} (ho:dM w.heap.size W' v' (gT (nk r::u))) (akA:W'.ownsRow w.heap.size 3 1 vo' (k+1) ((aR [1] (rs.take k)++[u.length+1]).map pV)) (ha:cJ v' vo') (hb:Below w.heap.size w W'):AN w rs (k+1) (nk r::u) v' vo' W':=by
 have ht:rs.take (k+1)=rs.take k++[r]:=by rw[jM hk,hr]
 obtain⟨d,hd⟩:=h.sh;rw[hu]at hd;have Wy:rs.take k=[]∨u≠[]:=hs.elim (fun h0=>.inl (by rw[h0];rfl)) .inr;refine⟨hk,⟨max d (u.length+1),by rw[ht];exact hd.step r Wy⟩,?_,?_,ho,?_,ha,hb,by have:=h.NX;simp only[dI];omega,?_⟩
 ·have:=BO u h.pos;rw[hu]at this;exact this
 ·rw[ht,IS,h.LR];simp[h0]
 ·rw[ht,hd.depth r Wy];exact akA
 ·intro c hc;rcases gq.1 hc with rfl|hc
  ·exact nU
  ·exact h.kids c hc
theorem AN.full {w:World} {rs:List PR} {k:Nat} {v vo:Value} {W:World} (h:AN w rs k [] v vo W) (hk:k<rs.length) (h0:0<k):eU rs=false:=by
 refine Cw ?_;obtain⟨d,hd⟩:=h.sh;rw[fJ]at hd;rw[dW hk];exact hd.full (by intro e;have:=bT List.length e;rw[nZ,oB]at this;omega) rfl _ _
theorem AN.done {w:World} {rs:List PR} {u:List Nat} {v vo:Value} {W:World} (h:AN w rs rs.length u v vo W):eU rs=(decide (0<rs.length)&&decide (norm u=[])):=by
 obtain⟨d,hd⟩:=h.sh;have h1:=h.LR;rw[rh]at hd h1;unfold eU;rw[hd.done,h1,Bool.and_true]
 congr 1
 ·cases rs<;>simp
 ·cases norm u<;>simp
theorem MX (l:List Nat):l=[]∨(∃t,l=0::t)∨ ∃x t,l=x::t∧0<x:=by
 cases l with
 |nil=>exact .inl rfl
 |cons x t=>
  rcases jK x with rfl|h
  ·exact .inr (.inl ⟨t,rfl⟩)
  ·exact .inr (.inr ⟨x,t,rfl,h⟩)
theorem QV (h:gT u=[]∨ ∃x t,gT u=x::t∧0<x):norm u=u:=by
 cases u with
 |nil=>exact fJ
 |cons c s=>
  rcases h with h|⟨x,t,h,hx⟩
  ·cases h
  ·injection h with h _
   exact kV s (by omega)
structure DpR (w:World) (rs:List PR) (k:Nat) (u:List Nat) (v vo:Value) (W:World):Prop where
 at_: ∃v0 W0,AN w rs k u v0 vo W0
 own:dM w.heap.size W v (u.map (· -1))
 out:W.ownsRow w.heap.size 3 1 vo k ((aR [1] (rs.take k)).map pV)
 apart:cJ v vo
 below:Below w.heap.size w W
theorem sP {u:Value} (h:cJ u v):u.ownBlock=none∨u.ownBlock≠v.ownBlock:=by
 cases hu:u.ownBlock with
 |none=>exact .inl rfl
 |some g=>exact .inr fun e=>h g hu e.symm
theorem zk {u:Value} (h:cJ t u) (hu:W.ownsRow lo e sz u n ys) (r3:fl t t'∨(t'.ownBlock=some (W.heap.size+1)∧W.grownBy W' none)):cJ t' u:=by
 rcases r3 with⟨g,n,m,cap,e1,e2⟩|⟨e1,_⟩
 ·subst e1 e2;exact fun q hq=>h q (by simpa [Value.ownBlock]using hq)
 ·intro q hq tY;rw[e1]at hq;injection hq with hq
  have:=(hu.lt q tY).2;omega
theorem AN.agB (h:AN w rs k [] v vo W):DpR w rs k [] v vo W:=⟨⟨_,_,h⟩,h.own,h.out,h.apart,h.below⟩
theorem AN.agC {x:Nat} {t:List Nat} (h:AN w rs k u (.slice (some ⟨g,0,none⟩) n c) vo W) (hu:gT u=x::t) (hx:0<x) (hb:w.heap.size≤g):
  DpR w rs k u (.slice (some ⟨g,0,none⟩) n c) vo (W.setCell ⟨g,t.length,none⟩ (.int .i64 ((x:Int)-1))):=by
 have ho:=h.own;rw[hu]at ho;have hm:u.map (· -1)=(x-1)::t:=by
  cases u with
  |nil=>cases hu
  |cons y s=>injection hu with e1 e2;rw[mv,e1,e2]
 have hg: ∀v,W.grownBy (W.setCell ⟨g,t.length,none⟩ v) (some g):=fun v=>⟨rfl,by first|rfl|simp,rfl,by simp,fun k _ bC=>vr W ⟨g,_,none⟩ _ k (by rintro rfl;exact bC rfl)⟩
 rw[show (x:Int)-1=((x-1:Nat):Int)by omega];exact⟨⟨_,_,h⟩,by rw[hm];exact ho.dec (x-1),h.out.kept (hg _) (sP h.apart.symm),h.apart,h.below.setCell (p:=⟨g,_,none⟩) hb _⟩
theorem DpR.next {w:World} {rs:List PR} {k:Nat} {u:List Nat} {v vo:Value} {W:World} (h:DpR w rs k u v vo W) (hk:k<rs.length) {r:PR} (hr:r=rs[k]) (hu:norm u=u) (hs:k=0∨u≠[]) (h0:0≤r.kids) (nU:r.kids≤rs.length)
  {v1 vo1:Value} {W1 W2:World} (uY:W1.ownsRow w.heap.size 3 1 vo1 (k+1) ((aR [1] (rs.take k)).map pV++[.int .i64 ((u.length:Int)+1)])) (pD:W.grownBy W1 vo.ownBlock) (oz:fl vo vo1∨(vo1.ownBlock=some (W.heap.size+1)∧W.grownBy W1 none))
  (AM:W2.ownsRow w.heap.size 3 1 v1 (u.length+1) ((u.map (· -1)).reverse.map pV++[.int .i64 r.kids])) (tm:W1.grownBy W2 v.ownBlock) (uV:fl v v1∨(v1.ownBlock=some (W1.heap.size+1)∧W1.grownBy W2 none)):AN w rs (k+1) (nk r::u) v1 vo1 W2:=by
 obtain⟨v0,W0,hi⟩:=h.at_;have a1:cJ vo1 v:=zk h.apart.symm h.own oz;have l1:=h.own.kept pD (sP h.apart);have a2:cJ v1 vo1:=zk a1.symm uY uV;have aU:Below w.heap.size w W1:=h.below.grown pD h.below.size fun q hq=>(h.out.lt q hq).1
 have aM:Below w.heap.size w W2:=aU.grown tm aU.size fun q hq=>(l1.lt q hq).1
 refine hi.next hk hr hu hs h0 (by unfold nk;omega) (dM.push (k:=nk r) (s:=u.map (· -1)) ?_) ?_ a2 aM
 ·rw[kG,show ((nk r:Nat):Int)=r.kids by unfold nk;omega];exact AM
 ·rw[mZ];exact uY.kept tm (sP a1)
theorem QW (hk:k<rs.length) (h:(rs.length:Int)<rs[k].kids):eU rs=false:=by
 refine Cw ?_;rw[dW hk];exact Cs (by rw[←dW hk];unfold nk;omega)
theorem Cx (h:oM b w v rs) (hlen:rs.length≤1048576):
  Calls prog 10 #[v] w (ik w rs):=by
 obtain⟨ao,c,rfl,hc⟩:=h;have HC:=aa hc;clear hc;go_enter func10,ntmps10;go_wp2_with fail;go_loopw [4,5,6] (fun t4 t5 t6 wr=> ∃(k:Nat) (u:List Nat),t6= .int .i64 (k:Int)∧Hid (AN w rs k u t4 t5 wr)) (fun _ _ t6 _=>rs.length-(intOf t6).toNat)
 case atStart=>exact⟨0,[],rfl,aa (AN.start w rs)⟩
 case round=>
  obtain⟨k,u,rfl,hI⟩:=hrel;obtain⟨av,cv,rfl⟩:=hI.out.own.sl;obtain⟨a5,n5,c5,rfl⟩:=bA hI.out.out;obtain⟨wo,rfl⟩: ∃wo:World,wo=wr:=⟨_,rfl⟩;by_cases au:k<rs.length
  ·have p1:((k:Int)<(rs.length:Int))=True:=az (by omega);obtain⟨g,o,rfl,_,hg,vm,vo,vi,vl,_,aZ⟩:=HC.out k au;obtain⟨r,hr⟩: ∃r,r=rs[k]:=⟨_,rfl⟩;have lX:=aZ 1 (by omega);rw[←hr]at lX;have XB:Hid (∀W,Below w.heap.size w W→W.cell? ⟨g,o+k*17+1,none⟩=some (.int .i64 r.kids)):=aa fun W hb=>(hb.cell (p:=⟨g,_,none⟩) hg).trans lX
   have HR:=aa hr;clear aZ lX hr hg;go_wp2_with fail;go_loopw [4] (fun t4 wx=> ∃u':List Nat,Hid (AN w rs k u' t4 (.slice a5 n5 c5) wx)) (fun t4 _=>rN t4)
   case atStart=>exact⟨u,hI⟩
   case round=>
    obtain⟨u',hJ⟩:=hrel;obtain⟨a6,c6,hv6⟩:=hJ.out.own.sl;subst hv6;have vh:(gT u').length≤1048576:=by rw[BS];have:=hJ.out.NX;omega
    have c1:=XB.out _ hJ.out.below;rcases MX (gT u')with h0|⟨t,h0⟩|⟨x,t,h0,hx⟩
    rotate_left
    ·have hn:(gT u').length=t.length+1:=by rw[h0];rfl
     rw[hn]at vh;simp only[hn]at hJ ⊢
     obtain⟨g6,c7,h6,Lw,hg6⟩:=hJ.out.own.form.resolve_left (fun h=>by rw[h0]at h;cases h.2);injection h6 with e1 e2 e3
     subst e1 e3;have ho:=hJ.out.own;rw[h0]at ho;have m1:=ho.top.1;have uu:=ho.cap;obtain⟨u2,K9,hD⟩:=hJ.out.pop h0 rfl rfl;have HD:=aa hD;clear ho hD hJ hI e2 K9 hn;go_wp2_with fail;exact⟨⟨u2,HD⟩,by simp[rN]⟩
    case' inl=>
     obtain rfl:u'=[]:=by
      cases u' with
      |nil=>rfl
      |cons c s=>cases h0
     simp only[gT,oB]at hJ ⊢
     have lI:(k=0∧((0:Int)<(k:Int))=False∧(0<k)=False)∨(0<k∧((0:Int)<(k:Int))=True∧(0<k)=True):=by
      rcases jK k with e|e
      ·exact .inl ⟨e,bL (by omega),bL (by omega)⟩
      ·exact .inr ⟨e,az (by omega),az e⟩
     rcases lI with⟨e,p2,p3⟩|⟨e,p2,p3⟩
     rotate_left
     ·have HP:=aa (ik.no (hJ.out.full au e) hJ.out.below);clear hJ hI;go_wp2_with fail;go_ret2;exact HP.out
     have HJB:=aa hJ.out.below;obtain⟨u',HU,HS,FN⟩: ∃u':List Nat,Hid (norm u'=u')∧Hid (k=0∨u'≠[])∧Hid (DpR w rs k u' (.slice a6 0 c6) (.slice a5 n5 c5) wr):=⟨[],aa fJ,aa (.inl e),aa hJ.out.agB⟩;clear e hJ
    case' inr.inr=>
     have hn:(gT u').length=t.length+1:=by rw[h0];rfl
     rw[hn]at vh;simp only[hn]at hJ ⊢
     obtain⟨g6,c7,h6,Lw,hg6⟩:=hJ.out.own.form.resolve_left (fun h=>by rw[h0]at h;cases h.2);injection h6 with e1 e2 e3
     subst e1 e3;have ho:=hJ.out.own;rw[h0]at ho;have m1:=ho.top.1;have m2:=ho.top.2;have uu:=ho.cap;have q1:((x:Int)==0)=false:=by rw[bK];omega
     have q2:((t.length:Int)+1==0)=false:=by rw[bK];omega
     have lI:0<k:=by
      have h1:=hJ.out.NX;have h2:=BS u';omega
     have p2:((0:Int)<(k:Int))=True:=az (by omega);have p3:(0<k)=True:=az lI;have HU:Hid (norm u'=u'):=aa (QV (.inr ⟨x,t,h0,hx⟩));have HS:Hid (k=0∨u'≠[]):=aa (.inr (by rintro rfl;cases h0));have FN:=aa (hJ.out.agC h0 hx Lw);have HJB:=aa hJ.out.below;have NZ:x≤1048576:=by
      have h1:=YU hJ.out.kids x (by rw[h0];simp);omega
     clear ho hJ e2 hn lI hg6 Lw
    all_goals
     clear hI h0;have akB:(r.kids<0)∨((rs.length:Int)<r.kids)∨(0≤r.kids∧r.kids≤rs.length):=by omega
     rcases akB with hk|hk|⟨lC,zM⟩
     ·have HP:=aa (ik.no (Kl au (by rw[←HR.out];exact hk)) HJB.out);have k1:(r.kids<0)=True:=az hk;clear hk;go_wp2_with fail;go_ret2;exact HP.out
     ·have HP:=aa (ik.no (QW au (by rw[←HR.out];exact hk)) HJB.out);have k1:(r.kids<0)=False:=bL (by omega);have k2:((rs.length:Int)<r.kids)=True:=az hk;clear hk;go_wp2_with fail;go_ret2;exact HP.out
     ·have k1:(r.kids<0)=False:=bL (by omega);have k2:((rs.length:Int)<r.kids)=False:=bL (by omega);go_upto_if 58 with(fail)
      go_cut [4]from 56 to 66 (fun t4 wx=> ∃a4 n4 c4,t4= .slice a4 n4 c4∧Hid (DpR w rs k u' (.slice a4 n4 c4) (.slice a5 n5 c5) wx))
      case first=>
       go_wp2_with fail;go_meet;exact⟨_,_,_,rfl,FN⟩
      case rest=>
       obtain⟨a4,n4,c4,rfl,hR⟩:=hcut;obtain rfl:n4=u'.length:=by
        obtain⟨_,_,e⟩:=hR.out.own.sl;injection e with _ e _
        rw[e,kG]
       have hul:u'.length≤1048576:=by
        obtain⟨v0,W0,hi⟩:=hR.out.at_;have:=hi.NX;omega
       have abt:=aa hR.out.out;have HRS:Hid (w.heap.size≤wc.heap.size):=aa hR.out.below.size;have HK:=aa (And.intro lC zM);clear lC zM c1;go_wp2_with ((at_builtin;refine ft rfl (.tmp 67) (.tmp 71) 33 rfl w.heap.size 3 (.int .i64 0) 1 8 BP underlying33 rfl (by decide) _ k _ rfl abt.out [.int .i64 ((u'.length:Int)+1)] rfl rfl (zU rfl) (by unfold maxLen;omega) (by omega) HRS.out ?_));intro vo1 W5 uY pD oz;obtain⟨a7,n7,c7,rfl⟩:=bA uY;obtain⟨ys,hys⟩: ∃ys,ys=(u'.map (· -1)).reverse.map pV:=⟨_,rfl⟩;have agD:Hid (W5.ownsRow w.heap.size 3 1 (.slice a4 u'.length c4) u'.length ys):=aa (by
        have:=hR.out.own.kept pD (sP hR.out.apart);rw[kG]at this;rw[hys];exact this)
       have HYS:=aa hys;have pC:Hid (Below w.heap.size w W5):=aa (hR.out.below.grown pD hR.out.below.size fun q hq=>(hR.out.out.lt q hq).1);have c1:=XB.out _ pC.out;have H1:=aa (And.intro uY (And.intro pD oz));clear uY pD oz hys;go_wp2_with ((at_builtin;refine ft rfl (.tmp 73) (.tmp 79) 33 rfl w.heap.size 3 (.int .i64 0) 1 8 BP underlying33 rfl (by decide) _ u'.length _ rfl agD.out [.int .i64 r.kids] rfl rfl (zU rfl) (by unfold maxLen;omega) (by omega) pC.out.size ?_));intro v1 W6 AM tm uV;obtain⟨a8,n8,c8,rfl⟩:=bA AM;rw[HYS.out]at AM;have HN:=aa (hR.out.next au HR.out HU.out HS.out HK.out.1 HK.out.2 H1.out.1 H1.out.2.1 H1.out.2.2 AM tm uV);clear AM tm uV;go_wp2_with fail;exact⟨⟨k+1,nk r::u',by go_num,HN⟩,gH au⟩
  ·have p1:((k:Int)<(rs.length:Int))=False:=bL (by omega);obtain rfl:k=rs.length:=by have:=hI.out.le;omega
   have HD:=aa hI.out.done;have afx:=aa (JF u hI.out.pos);have vh:(gT u).length≤1048576:=by rw[BS];have:=hI.out.NX;omega
   have F7:=aa hI.out.own;have HB:=aa hI.out.below;have abt:=aa hI.out.out;clear hI;go_wp2_with fail;go_loopw [7] (fun t7 wx=> ∃j:Nat,t7= .int .i64 (j:Int)∧wx=wo∧Hid (j≤(gT u).length∧ ∀i (h:i<(gT u).length),i<j→(gT u).reverse[i]'(by simpa using h)=0)) (fun t7 _=>(gT u).length-(intOf t7).toNat)
   case atStart=>exact⟨0,rfl,rfl,aa ⟨aT _,fun i _ h=>absurd h (Nat.not_lt_zero _)⟩⟩
   case round=>
    obtain⟨j,rfl,rfl,hJ⟩:=hrel;by_cases hj:j<(gT u).length
    ·have q1:((j:Int)<((gT u).length:Int))=True:=az (by omega);obtain⟨g6,c7,h6,_,hg6⟩:=F7.out.form.resolve_left (fun h=>by rw[h.2]at hj;simp at hj);injection h6 with e1 e2 e3
     subst e1 e3;obtain⟨x,hx⟩: ∃x,x=(gT u).reverse[j]'(by simpa using hj):=⟨_,rfl⟩;have c0:wr.cell? ⟨g6,j,none⟩=some (.int .i64 (x:Int)):=by
      rw[IG F7.out j (by simpa using hj),hx];exact(lB (by simpa using hj)).trans (by rw[List.getElem_map];rfl)
     have HX:=aa hx;by_cases h0:x=0
     ·have q2:((0:Int)<(x:Int))=False:=bL (by omega);have q3:(0<x)=False:=bL (by omega);have HN:Hid (j+1≤(gT u).length∧ ∀i (h:i<(gT u).length),i<j+1→(gT u).reverse[i]'(by simpa using h)=0):=aa ⟨hj,fun i h hi=>by
       by_cases XC:i<j
       ·exact hJ.out.2 i h XC
       ·obtain rfl:i=j:=by omega
        rw[←HX.out,h0]⟩
      clear h0 hx hJ;go_wp2_with fail;go_roundw
      case rel=>exact⟨j+1,by go_num,by first|rfl|trivial,HN⟩
      case measure=>simp[intOf];omega
     ·have q2:((0:Int)<(x:Int))=True:=az (by omega);have q3:(0<x)=True:=az (by omega);have HP:=aa (ik.no (w:=w) (rs:=rs) (by
       rw[HD.out,Bool.and_eq_false_iff];refine .inr (gp fun e=>h0 ?_);exact afx.out.2 e x (by rw[hx];exact List.mem_reverse.1 (gj _))) HB.out)
      clear h0 hx hJ;go_wp2_with fail;go_ret2;exact HP.out
    ·have q1:((j:Int)<((gT u).length:Int))=False:=bL (by omega);have hz:norm u=[]:=afx.out.1 fun c hc=>by
      obtain⟨i,hi,rfl⟩:=List.mem_iff_getElem.1 (List.mem_reverse.2 hc);rw[List.length_reverse]at hi;exact hJ.out.2 i hi (by omega)
     have HDB:Hid (eU rs=decide (0<rs.length)):=aa (by rw[HD.out,hz];simp);have HP:Hid (ik w rs (.returned (.tuple #[.slice a5 n5 c5,.bool (decide (0<rs.length))])) wr):=aa (by
      refine⟨a5,n5,c5,by rw[HDB.out],?_,HB.out⟩;have ho:=abt.out;rw[rh]at ho;unfold da;rw[HDB.out];rcases jK rs.length with h|h
      ·obtain rfl:=pH.1 h;exact ho
      ·have h2:=ho.1;simp only[kG]at h2;rw[ar (dQ h),show (aR [1] rs).length=rs.length by omega];exact ho)
     clear hz hJ;have hl:(((0:Int)<(rs.length:Int))=False∧(0<rs.length)=False∧rs.length=0)∨(((0:Int)<(rs.length:Int))=True∧(0<rs.length)=True∧0<rs.length):=by
      rcases jK rs.length with h|h
      ·exact .inl ⟨bL (by omega),bL (by omega),h⟩
      ·exact .inr ⟨az (by omega),az (by omega),h⟩
     rcases hl with⟨l1,l2,l3⟩|⟨l1,l2,l3⟩
     ·rw[gp (by omega)]at HP;clear l3;go_wp2_with fail;go_ret2;exact HP.out
     ·rw[dQ l3]at HP;clear l3;go_wp2_with fail;go_ret2;exact HP.out
theorem Va (w:World) (kids:Int) (op text bQ step off tim:ByteArray) (bool given on without:Bool) (card:Int) (ms:List PM) (mls inc labels:List ByteArray) (am ao ai al:Option Addr) (nm cm no co ni ci nl cl:Nat)
  (h:bw 0 w ⟨4,kids,op,text,ms,bQ,step,off,tim,bool,given,on,mls,card,inc,without,labels⟩ (.slice am nm cm) (.slice ao no co) (.slice ai ni ci) (.slice al nl cl)):
  Calls prog 77 #[.agg #[.int .i64 4,.int .i64 kids,.string op,.string text,.slice am nm cm,.string bQ,.string step,.string off,.string tim,.bool bool,.bool given,.bool on,.slice ao no co,.int .i64 card,.slice ai ni ci,.bool without,.slice al nl cl]] w (qK w (fZ ⟨4,kids,op,text,ms,bQ,step,off,tim,bool,given,on,mls,card,inc,without,labels⟩)):=by
 have HL:=aa h;clear h;go_enter func77,ntmps77;go_wp2_with (refine ay rfl 46 (.tmp 2) (.tmp 40) rfl (w.heap.size+1) _ rfl rfl (fp _ _ _ _) aN rfl rfl ?_);intro W' hz iu;go_wp2_with fail;exact cz (bf results77 rfl hz underlying46 aN) rfl (oj (r:=fZ ⟨4,kids,op,text,ms,bQ,step,off,tim,bool,given,on,mls,card,inc,without,labels⟩) (m:=(.slice am nm cm)) (o:=(.slice ao no co)) (i:=(.slice ai ni ci)) (l:=(.slice al nl cl)) (by simp only[fZ,bw];simp;exact⟨HL.out.1,HL.out.2.1,HL.out.2.2.1,HL.out.2.2.2⟩) iu (by simp[fZ,dN,eS]))
theorem Vb (w:World) (kids:Int) (op text bQ step off tim:ByteArray) (bool given on without:Bool) (card:Int) (ms:List PM) (mls inc labels:List ByteArray) (am ao ai al:Option Addr) (nm cm no co ni ci nl cl:Nat)
  (h:bw 0 w ⟨5,kids,op,text,ms,bQ,step,off,tim,bool,given,on,mls,card,inc,without,labels⟩ (.slice am nm cm) (.slice ao no co) (.slice ai ni ci) (.slice al nl cl)):
  Calls prog 77 #[.agg #[.int .i64 5,.int .i64 kids,.string op,.string text,.slice am nm cm,.string bQ,.string step,.string off,.string tim,.bool bool,.bool given,.bool on,.slice ao no co,.int .i64 card,.slice ai ni ci,.bool without,.slice al nl cl]] w (qK w (fZ ⟨5,kids,op,text,ms,bQ,step,off,tim,bool,given,on,mls,card,inc,without,labels⟩)):=by
 have HL:=aa h;clear h;go_enter func77,ntmps77;go_wp2_with (refine ay rfl 46 (.tmp 2) (.tmp 40) rfl (w.heap.size+1) _ rfl rfl (fp _ _ _ _) aN rfl rfl ?_);intro W' hz iu;go_wp2_with fail;exact cz (bf results77 rfl hz underlying46 aN) rfl (oj (r:=fZ ⟨5,kids,op,text,ms,bQ,step,off,tim,bool,given,on,mls,card,inc,without,labels⟩) (m:=(.slice am nm cm)) (o:=(.slice ao no co)) (i:=(.slice ai ni ci)) (l:=(.slice al nl cl)) (by simp only[fZ,bw];simp;exact⟨HL.out.1,HL.out.2.1,HL.out.2.2.1,HL.out.2.2.2⟩) iu (by simp[fZ,dN,eS]))
theorem Vc (w:World) (kids:Int) (op text bQ step off tim:ByteArray) (bool given on without:Bool) (card:Int) (ms:List PM) (mls inc labels:List ByteArray) (am ao ai al:Option Addr) (nm cm no co ni ci nl cl:Nat)
  (h:bw 0 w ⟨6,kids,op,text,ms,bQ,step,off,tim,bool,given,on,mls,card,inc,without,labels⟩ (.slice am nm cm) (.slice ao no co) (.slice ai ni ci) (.slice al nl cl)):
  Calls prog 77 #[.agg #[.int .i64 6,.int .i64 kids,.string op,.string text,.slice am nm cm,.string bQ,.string step,.string off,.string tim,.bool bool,.bool given,.bool on,.slice ao no co,.int .i64 card,.slice ai ni ci,.bool without,.slice al nl cl]] w (qK w (fZ ⟨6,kids,op,text,ms,bQ,step,off,tim,bool,given,on,mls,card,inc,without,labels⟩)):=by
 have HL:=aa h;clear h;go_enter func77,ntmps77;go_wp2_with (refine ay rfl 46 (.tmp 2) (.tmp 40) rfl (w.heap.size+1) _ rfl rfl (fp _ _ _ _) aN rfl rfl ?_);intro W' hz iu;go_wp2_with fail;exact cz (bf results77 rfl hz underlying46 aN) rfl (oj (r:=fZ ⟨6,kids,op,text,ms,bQ,step,off,tim,bool,given,on,mls,card,inc,without,labels⟩) (m:=(.slice am nm cm)) (o:=(.slice ao no co)) (i:=(.slice ai ni ci)) (l:=(.slice al nl cl)) (by simp only[fZ,bw];simp;exact⟨HL.out.1,HL.out.2.1,HL.out.2.2.1,HL.out.2.2.2⟩) iu (by simp[fZ,dN,eS]))
theorem Vd (w:World) (k:Int) (h1: ¬k=1) (h2: ¬k=2) (h3: ¬k=3) (h4: ¬k=4) (h5: ¬k=5) (h6: ¬k=6) (h7: ¬k=7) (h8: ¬k=8) (h9: ¬k=9) (kids:Int) (op text bQ step off tim:ByteArray) (bool given on without:Bool) (card:Int) (ms:List PM) (mls inc labels:List ByteArray) (am ao ai al:Option Addr) (nm cm no co ni ci nl cl:Nat)
  (h:bw 0 w ⟨k,kids,op,text,ms,bQ,step,off,tim,bool,given,on,mls,card,inc,without,labels⟩ (.slice am nm cm) (.slice ao no co) (.slice ai ni ci) (.slice al nl cl)):
  Calls prog 77 #[.agg #[.int .i64 k,.int .i64 kids,.string op,.string text,.slice am nm cm,.string bQ,.string step,.string off,.string tim,.bool bool,.bool given,.bool on,.slice ao no co,.int .i64 card,.slice ai ni ci,.bool without,.slice al nl cl]] w (qK w (fZ ⟨k,kids,op,text,ms,bQ,step,off,tim,bool,given,on,mls,card,inc,without,labels⟩)):=by
 have HL:=aa h;have b1:(k==1)=false:=by simpa using h1
 have b2:(k==2)=false:=by simpa using h2
 have b3:(k==3)=false:=by simpa using h3
 have b4:(k==4)=false:=by simpa using h4
 have b5:(k==5)=false:=by simpa using h5
 have b6:(k==6)=false:=by simpa using h6
 have b7:(k==7)=false:=by simpa using h7
 have b8:(k==8)=false:=by simpa using h8
 have b9:(k==9)=false:=by simpa using h9
 clear h;go_enter func77,ntmps77;go_wp2_with (refine ay rfl 46 (.tmp 2) (.tmp 40) rfl (w.heap.size+1) _ rfl rfl (fp _ _ _ _) aN rfl rfl ?_);intro W' hz iu;go_wp2_with fail;exact cz (bf results77 rfl hz underlying46 aN) rfl (oj (r:=fZ ⟨k,kids,op,text,ms,bQ,step,off,tim,bool,given,on,mls,card,inc,without,labels⟩) (m:=(.slice am nm cm)) (o:=(.slice ao no co)) (i:=(.slice ai ni ci)) (l:=(.slice al nl cl)) (by simp only[fZ,bw,h1,h2,h3,h4,h5,h6,h7,h8,h9];simp;exact⟨HL.out.1,HL.out.2.1,HL.out.2.2.1,HL.out.2.2.2⟩) iu (by simp[fZ,dN,eS,h1,h2,h3,h4,h5,h6,h7,h8,h9]))
def iH (b:Nat) (w w':World):Prop:=w.heap.size≤w'.heap.size∧ ∀k,b≤k→k<w.heap.size→w'.heap[k]? =w.heap[k]?
theorem iH.cell {b:Nat} {w w':World} (h:iH b w w') {g o:Nat} (hb:b≤g) (hg:g<w.heap.size):w'.cell? ⟨g,o,none⟩=w.cell? ⟨g,o,none⟩:=World.cell?_of_block (h.2 g hb hg)
theorem iH.refl (b:Nat) (w:World):iH b w w:=⟨aP _,fun _ _ _=>rfl⟩
theorem iH.below (h:iH b w w') (hb:Below w'.heap.size w' ZJ):iH b w ZJ:=⟨bn h.1 hb.size,fun k h1 h2=>(hb.block k (gO h2 h.1)).trans (h.2 k h1 h2)⟩
def Off (b:Nat) (w:World) (v:Value):Prop:= ∀q,v.ownBlock=some q→q<b∨w.heap.size≤q
theorem iH.grow (h:iH b w w') (hg:w'.grownBy ZJ v.ownBlock) (ho:Off b w v):iH b w ZJ:=
 ⟨bn h.1 hg.size,fun k h1 h2=>(hg.block k (gO h2 h.1) (fun e=>by rcases ho k e.symm with h3|h3<;>omega)).trans (h.2 k h1 h2)⟩
theorem cL.agree (h:cL b w v ss) (hB:iH b w w'):cL b w' v ss:=by
 obtain⟨ao,c,h1,h2⟩:=h;refine⟨ao,c,h1,fun j hj=>?_⟩;obtain⟨g,o,a,l,u,x⟩:=h2 j hj;exact⟨g,o,a,l,gO u hB.1,(hB.cell l u).trans x⟩
theorem fU.agree (h:fU b w v ms) (hB:iH b w w'):fU b w' v ms:=by
 obtain⟨ao,c,h1,h2⟩:=h;refine⟨ao,c,h1,fun j hj=>?_⟩;obtain⟨g,o,a,l,u,x,y,z⟩:=h2 j hj;exact⟨g,o,a,l,gO u hB.1,(hB.cell l u).trans x,(hB.cell l u).trans y,(hB.cell l u).trans z⟩
theorem pU.agree (h:pU b w v ks) (hB:iH b w w'):pU b w' v ks:=by
 obtain⟨ao,c,h1,h2⟩:=h;refine⟨ao,c,h1,fun j hj=>?_⟩;obtain⟨g,o,a,l,u,x⟩:=h2 j hj;exact⟨g,o,a,l,gO u hB.1,(hB.cell l u).trans x⟩
theorem aY.agree {b:Nat} {w w':World} {v:Value} {r:PR} {ks:List Value} (h:aY b w v r ks) (hB:iH b w w'):aY b w' v r ks:=by
 cases h with
 |number g hb hg t c0=>exact .number g hb (gO hg hB.1) t ((hB.cell hb hg).trans c0)
 |text g hb hg t c0=>exact .text g hb (gO hg hB.1) t ((hB.cell hb hg).trans c0)
 |selector g hb hg t off tim vm ms hm c0 c1 c2 c3=>exact .selector g hb (gO hg hB.1) t off tim vm ms (hm.agree hB) ((hB.cell hb hg).trans c0) ((hB.cell hb hg).trans c1) ((hB.cell hb hg).trans c2) ((hB.cell hb hg).trans c3)
 |range g hb hg d p c0 c1=>exact .range g hb (gO hg hB.1) d p ((hB.cell hb hg).trans c0) ((hB.cell hb hg).trans c1)
 |subquery g hb hg d s off tim t x c0 c1 c2 c3 c4=>exact .subquery g hb (gO hg hB.1) d s off tim t x ((hB.cell hb hg).trans c0) ((hB.cell hb hg).trans c1) ((hB.cell hb hg).trans c2) ((hB.cell hb hg).trans c3) ((hB.cell hb hg).trans c4)
 |unary g hb hg o t x c0 c1=>exact .unary g hb (gO hg hB.1) o t x ((hB.cell hb hg).trans c0) ((hB.cell hb hg).trans c1)
 |binary g hb hg o t u x y bo gi on vl vi ls inc card hl hi c0 c1 c2 c3 c4 c5 c6 c7 c8=>exact .binary g hb (gO hg hB.1) o t u x y bo gi on vl vi ls inc card (hl.agree hB) (hi.agree hB) ((hB.cell hb hg).trans c0) ((hB.cell hb hg).trans c1) ((hB.cell hb hg).trans c2) ((hB.cell hb hg).trans c3) ((hB.cell hb hg).trans c4) ((hB.cell hb hg).trans c5) ((hB.cell hb hg).trans c6) ((hB.cell hb hg).trans c7) ((hB.cell hb hg).trans c8)
 |call g hb hg o va ks hk c0 c1=>exact .call g hb (gO hg hB.1) o va ks (hk.agree hB) ((hB.cell hb hg).trans c0) ((hB.cell hb hg).trans c1)
 |aggr g hb hg o t x wo vl ls hl c0 c1 c2 c3 c4=>exact .aggr g hb (gO hg hB.1) o t x wo vl ls (hl.agree hB) ((hB.cell hb hg).trans c0) ((hB.cell hb hg).trans c1) ((hB.cell hb hg).trans c2) ((hB.cell hb hg).trans c3) ((hB.cell hb hg).trans c4)
 |aggr2 g hb hg o t u x y wo vl ls hl c0 c1 c2 c3 c4=>exact .aggr2 g hb (gO hg hB.1) o t u x y wo vl ls (hl.agree hB) ((hB.cell hb hg).trans c0) ((hB.cell hb hg).trans c1) ((hB.cell hb hg).trans c2) ((hB.cell hb hg).trans c3) ((hB.cell hb hg).trans c4)
theorem dK.agree {b:Nat} {w w':World} (hB:iH b w w') {d:Nat} {v:Value} {L:List (Nat×PR)} (h:dK b w d v L):dK b w' d v L:=by
 induction h with
 |mk d v r ks cH h0 _ ih=>exact .mk d v r ks cH (h0.agree hB) fun i hi=>ih i hi
def AW (k:Nat) (w:World) (v:Value) (m:Nat) (news:List Value):Prop:=
 ∃ao c,v= .slice ao m c∧news.length=m*k∧(∀u∈news,u.oneCell'=true)∧((ao=none∧m=0)∨ ∃ad,ao=some ad∧ ∀j u,news[j]? =some u→w.cell? (ad.add j)=some u)
theorem AW.below (h:AW k w v m news) (hb:Below w.heap.size w w'):AW k w' v m news:=by
 obtain⟨ao,c,h1,h2,h3,h4⟩:=h;refine⟨ao,c,h1,h2,h3,h4.imp id ?_⟩;rintro⟨ad,e,h5⟩;refine⟨ad,e,fun j u hu=>?_⟩;have h6:=h5 j u hu;refine(hb.cell ?_).trans h6;rcases dD (ad.add j).block w.heap.size with au|lW
 ·exact au
 ·unfold World.cell? at h6;rw[vq lW]at h6;simp at h6
theorem th (base:Nat) (t ty e:TypeId) (i:TypeInfo) (size:Nat) (ht:P.underlying t=some (.slice e)) (hi:P.info? e=some i)
  (v:Value) (n c:Nat) (xs:List Value) (aL:w.ownsRow base e size v n xs):
  (Builtin.append_ #[t,t] ty #[v,.slice none 0 c]).run P w= .ok v w:=by
 rcases aL.2 with⟨rfl,rfl⟩|⟨g,cap,cur,rfl,_,_,hnc,_⟩
 ·simp[Builtin.append_,run_underlying ht,sizeOf,typeInfo,hi,Builtin.lenOf,Builtin.firstCells]
 ·simp[Builtin.append_,run_underlying ht,sizeOf,typeInfo,hi,Builtin.lenOf,Builtin.firstCells,hnc,storeCells]
theorem CZ (w:World) (base:Nat) (t ty e:TypeId) (z:Value) (size bytes:Nat) (oL:(P.info? e).map (fun i=>(i.zero,i.size,i.bytes))=some (some z,size,bytes)) (ht:P.underlying t=some (.slice e))
  (Py:z.cells.size=size) (jf:0<size) (v:Value) (n:Nat) (xs:List Value) (aL:w.ownsRow base e size v n xs) (u:Value) (m:Nat) (news:List Value) (abu:AW size w u m news)
  (xn:n+m≤maxLen) (hb:(n+m)*bytes≤140737488355328) (cU:base≤w.heap.size):
  ∃v' w',(Builtin.append_ #[t,t] ty #[v,u]).run P w= .ok v' w'∧w'.ownsRow base e size v' (n+m) (xs++news)∧w.grownBy w' v.ownBlock:=by
 obtain⟨i,hi,hz,Sz,NV⟩:=mC oL;obtain⟨ao,c,rfl,hl,h1,h2⟩:=abu;rcases h2 with⟨rfl,rfl⟩|⟨ad,rfl,hc⟩
 ·have h0:news=[]:=pH.1 (by simpa using hl);subst h0;refine⟨v,w,th base t ty e i size ht hi v n c xs aL,by simpa using aL,rfl,rfl,rfl,aP _,fun _ _ _=>rfl⟩
 ·obtain⟨v',w',hr,ho,hg,_⟩:=run_append_own (P:=P) w base t ty e i z size bytes ht hi hz Sz NV Py jf v n xs aL ad m c news hl hc h1 xn hb cU;exact⟨v',w',hr,ho,hg⟩
theorem fX 
  (hg:o.guard=none) (s x:Operand) (t:TypeId) (Dl:o.op=Op.call {callee:=Callee.builtin Builtin.append,args:=#[s,x],argTypes:=#[t,t]})
  (base:Nat) (e:TypeId) (z:Value) (size bytes:Nat) (oL:(P.info? e).map (fun i=>(i.zero,i.size,i.bytes))=some (some z,size,bytes)) (h1:P.underlying t=some (.slice e)) (Py:z.cells.size=size) (jf:0<size)
  (v:Value) (n:Nat) (xs:List Value) (hs:a.eval s=v) (aL:w.ownsRow base e size v n xs) (u:Value) (m:Nat) (news:List Value) (hx:a.eval x=u) (abu:AW size w u m news)
  (xn:n+m≤maxLen) (hb:(n+m)*bytes≤140737488355328) (cU:base≤w.heap.size)
  (hK: ∀v' w',w'.ownsRow base e size v' (n+m) (xs++news)→w.grownBy w' v.ownBlock→wpList P ops Q rest (a.put o.dst v') w'):
  wpList P ops Q (o::rest) a w:=by
 refine wpList_plain hg fun K yr=>?_
 obtain⟨v',w',hr,r1,r2⟩:=CZ (P:=P) w base t o.type e z size bytes oL h1 Py jf v n xs aL u m news abu xn hb cU;unfold Oper.wp execOp;simp only[Dl,resolve,invoke,builtin,vA,Bf,A7,List.map_toArray,mv,oI,hs,hx,hr];exact yr _ _ (hK v' w' r1 r2)
theorem fU.src (h:fU b w v ms):AW 3 w v ms.length (ms.flatMap og):=by
 obtain⟨ao,c,rfl,hc⟩:=h;refine⟨ao,c,rfl,rO og 3 (fun _=>rfl) ms,fun u hu=>?_,?_⟩
 ·obtain⟨m,_,hm⟩:=IP.1 hu;simp only[og,gq,kE,iN]at hm;rcases hm with rfl|rfl|rfl<;>rfl
 ·cases ms with
  |nil=>cases ao with
   |none=>exact .inl ⟨rfl,rfl⟩
   |some a=>exact .inr ⟨a,rfl,fun j u hu=>by simp at hu⟩
  |cons m ms=>
   obtain⟨g,o,rfl,_⟩:=hc 0 (by simp);refine .inr ⟨_,rfl,fun j u hu=>?_⟩;rw[mB];refine qn og 3 (fun _=>rfl) (by decide) (m::ms) w g o (fun j hj i hi=>?_) j u hu;obtain⟨g',o',he,_,_,x,y,z⟩:=hc j hj;cases he
   match i,hi with
   |0,_=>exact x
   |1,_=>exact y
   |2,_=>exact z
