import Derived.Test.YtcdoilkjmjbgmaaGreatDoorR11
import Derived.Test.YtcdoilkjmjbgmaaGreatDoorR13
/- Part of the proof of YtcdoilkjmjbgmaaGreatDoorCardR: TvP TvQ TvS TrRd TrJb Src. -/
set_option maxRecDepth 100000
set_option maxHeartbeats 4000000
set_option linter.unusedVariables false
set_option linter.unusedSimpArgs false
namespace Go.Proofs.YtcdoilkjmjbgmaaGreatDoor
open Go.RowKit
open Tryz
variable {m deep k lo n sz g c b:Nat} {u s l:List Nat} {x rs:List PR} {w w' W W' Zk:World} {v vo t t':Value} {e:TypeId} {ys ks news:List Value} {a:Act} {ss:List ByteArray} {ms:List PM} {P:Program} {ops:Array Oper} {rest:List Oper} {o:Oper} {Q:Exit→Act→World→Prop}
def gY:List Nat→List Nat
 |[]=>[]
 |c::s=>c::s.map (· -1)
theorem Cd (u:List Nat):(gY u).length=u.length:=by cases u<;>simp[gY]
theorem Fm (c:Nat) (s:List Nat):gY (0::c::s)=0::gY ((c-1)::s):=rfl
theorem JX : ∀ u : List Nat, (∀ c ∈ u.tail, 0 < c) → ((∀ c ∈ gY u, c = 0) ↔ norm u = [])
  | [], _ => by simp [gY, fT]
  | [0], _ => by simp [gY, lj]
  | 0 :: c :: s, h => by
    rw[jm,←JX ((c-1)::s) fun x hx=>h x (yH _ hx),Fm]
    simp
  | (c + 1) :: s, _ => by rw [lk s (by omega)]; simp [gY]
  termination_by u=>u.length
theorem Yx (h: ∀c∈u,c≤m): ∀c∈gY u,c≤m:=by
 cases u with
 |nil=>exact fun c h=>absurd h (by simp[gY])
 |cons x s=>
  intro c hc;rcases gB.1 hc with rfl|hc
  ·exact h _ (by simp)
  ·obtain⟨y,hy,rfl⟩:=tS.1 hc;have:=h y (by simp[hy]);omega
theorem ft.depth (h:ft x s deep) (r:PR) (hs:x=[]∨s≠[]):aU [1] (x++[r])=aU [1] x++[s.length+1]:=by
 by_cases hx:x=[]
 ·have h0:=h.none_ hx;subst hx h0;simp[aU,iD]
 ·have hn:s≠[]:=hs.resolve_left hx;rw[(h.more hx [r]).2,s5 h.rest hn,aU,iD]
def dO (rs:List PR):Bool:=trees 1 rs&&rs.all fun r=>decide (0≤r.kids)
def dv (rs:List PR):List Nat:=if dO rs=true then aU [1] rs else[]
theorem CN (h:trees 1 rs=false):dO rs=false:=by unfold dO;rw[h];rfl
theorem KE (hk:k<rs.length) (h:rs[k].kids<0):dO rs=false:=by
 unfold dO;rw[Bool.and_eq_false_iff];refine .inr (EC.2 ⟨rs[k],jz hk,by simp;omega⟩)
theorem sj (h:dO rs=true):(dv rs).length=rs.length:=by
 unfold dv;rw[au h];unfold dO at h;rw[kN]at h;exact ma rs [1] h.1
def im (w:World) (rs:List PR) (e:Ending) (w':World):Prop:=
 ∃a n c,e= .returned (.tuple #[.slice a n c,.bool (dO rs)])∧w'.ownsRow w.heap.size 3 1 (.slice a n c) (dv rs).length ((dv rs).map tB)∧Below w.heap.size w w'
theorem im.no (h:dO rs=false) (hb:Below w.heap.size w w'):im w rs (.returned (.tuple #[.slice none 0 0,.bool false])) w':=
 ⟨none,0,0,by rw[h],by unfold dv;rw[h];exact rh _ _ _ _,hb⟩
structure AW (w:World) (rs:List PR) (k:Nat) (u:List Nat) (v vo:Value) (W:World):Prop where
 le:k≤rs.length
 sh: ∃deep,ft (rs.take k) (norm u) deep
 pos: ∀c∈u.tail,0<c
 Ma:(rs.take k).all (fun r=>decide (0≤r.kids))=true
 own:dL w.heap.size W v (gY u)
 out:W.ownsRow w.heap.size 3 1 vo k ((aU [1] (rs.take k)).map tB)
 apart:gZ v vo
 below:Below w.heap.size w W
 Oh:u.length≤k
 kids: ∀c∈u,c≤rs.length
theorem AW.start (w:World) (rs:List PR):AW w rs 0 [] (.slice none 0 0) (.slice none 0 0) w:=
 ⟨dQ _,⟨0,by rw[fT];exact ft.start⟩,(fun c h=>by cases h),rfl,dL.nil _ _,rh _ _ _ _,(fun g h=>by simp[Value.ownBlock]at h),aV _ _,dQ _,(fun c h=>by cases h)⟩
theorem AW.len (h:AW w rs k u v vo W):(aU [1] (rs.take k)).length=k:=by
 have:=h.out.1;simpa using this
theorem AW.pop {w:World} {rs:List PR} {k g c n:Nat} {u:List Nat} {vo:Value} {W:World} {x:Nat} {t:List Nat} (h:AW w rs k u (.slice (some ⟨g,0,none⟩) (n+1) c) vo W) (hu:gY u=x::t) (hx:x=0) (hn:n=t.length):
  ∃u',gY u'=t∧AW w rs k u' (.slice (some ⟨g,0,none⟩) n c) vo W:=by
 subst hx;have ho:=h.own;rw[hu]at ho;have hp:=ho.pop hn;have ha:gZ (.slice (some ⟨g,0,none⟩) n c) vo:=fun q hq=>h.apart q (by simpa [Value.ownBlock]using hq)
 cases u with
 |nil=>cases hu
 |cons y s=>
  cases y with
  |succ y=>simp[gY]at hu
  |zero=>
   cases s with
   |nil=>
    injection hu with _ ht
    subst ht;refine⟨[],rfl,h.le,?_,(fun c h=>by cases h),h.Ma,hp,h.out,ha,h.below,dQ _,(fun c h=>by cases h)⟩;obtain⟨d,hd⟩:=h.sh;exact⟨d,by rw[fT];rwa [lj]at hd⟩
   |cons y s=>
    rw[Fm]at hu;injection hu with _ ht
    subst ht;refine⟨(y-1)::s,rfl,h.le,?_,fun c hc=>h.pos c (yH _ hc),h.Ma,hp,h.out,ha,h.below,by have:=h.Oh;simp only[dZ]at this ⊢;omega,fun c hc=>?_⟩
    ·obtain⟨d,hd⟩:=h.sh;exact⟨d,by rwa [jm]at hd⟩
    ·rcases gB.1 hc with rfl|hc
     ·have:=h.kids y (by simp);omega
     ·exact h.kids c (by simp[hc])
theorem AW.next (h:AW w rs k u v vo W) (hk:k<rs.length) {r:PR} (hr:r=rs[k]) (hu:norm u=u) (hs:k=0∨u≠[]) (h0:0≤r.kids) (qY:nk r≤rs.length)
  {v' vo':Value} {W':World} (ho:dL w.heap.size W' v' (gY (nk r::u))) (ajy:W'.ownsRow w.heap.size 3 1 vo' (k+1) ((aU [1] (rs.take k)++[u.length+1]).map tB)) (ha:gZ v' vo') (hb:Below w.heap.size w W'):AW w rs (k+1) (nk r::u) v' vo' W':=by
 have ht:rs.take (k+1)=rs.take k++[r]:=by rw[jy hk,hr]
 obtain⟨d,hd⟩:=h.sh;rw[hu]at hd;have Wk:rs.take k=[]∨u≠[]:=hs.elim (fun h0=>.inl (by rw[h0];rfl)) .inr;refine⟨hk,⟨max d (u.length+1),by rw[ht];exact hd.step r Wk⟩,?_,?_,ho,?_,ha,hb,by have:=h.Oh;simp only[dZ];omega,?_⟩
 ·have:=B7 u h.pos;rw[hu]at this;exact this
 ·rw[ht,Ja,h.Ma];simp[h0]
 ·rw[ht,hd.depth r Wk];exact ajy
 ·intro c hc;rcases gB.1 hc with rfl|hc
  ·exact qY
  ·exact h.kids c hc
theorem AW.full {w:World} {rs:List PR} {k:Nat} {v vo:Value} {W:World} (h:AW w rs k [] v vo W) (hk:k<rs.length) (h0:0<k):dO rs=false:=by
 refine CN ?_;obtain⟨d,hd⟩:=h.sh;rw[fT]at hd;rw[dY hk];exact hd.full (by intro e;have:=cz List.length e;rw[nU,nW]at this;omega) rfl _ _
theorem AW.done {w:World} {rs:List PR} {u:List Nat} {v vo:Value} {W:World} (h:AW w rs rs.length u v vo W):dO rs=(decide (0<rs.length)&&decide (norm u=[])):=by
 obtain⟨d,hd⟩:=h.sh;have h1:=h.Ma;rw[qO]at hd h1;unfold dO;rw[hd.done,h1,Bool.and_true]
 congr 1
 ·cases rs<;>simp
 ·cases norm u<;>simp
theorem Nl (l:List Nat):l=[]∨(∃t,l=0::t)∨ ∃x t,l=x::t∧0<x:=by
 cases l with
 |nil=>exact .inl rfl
 |cons x t=>
  rcases jS x with rfl|h
  ·exact .inr (.inl ⟨t,rfl⟩)
  ·exact .inr (.inr ⟨x,t,rfl,h⟩)
theorem Q4 (h:gY u=[]∨ ∃x t,gY u=x::t∧0<x):norm u=u:=by
 cases u with
 |nil=>exact fT
 |cons c s=>
  rcases h with h|⟨x,t,h,hx⟩
  ·cases h
  ·injection h with h _
   exact lk s (by omega)
structure DpR (w:World) (rs:List PR) (k:Nat) (u:List Nat) (v vo:Value) (W:World):Prop where
 at_: ∃v0 W0,AW w rs k u v0 vo W0
 own:dL w.heap.size W v (u.map (· -1))
 out:W.ownsRow w.heap.size 3 1 vo k ((aU [1] (rs.take k)).map tB)
 apart:gZ v vo
 below:Below w.heap.size w W
theorem s9 {u:Value} (h:gZ u v):u.ownBlock=none∨u.ownBlock≠v.ownBlock:=by
 cases hu:u.ownBlock with
 |none=>exact .inl rfl
 |some g=>exact .inr fun e=>h g hu e.symm
theorem zy {u:Value} (h:gZ t u) (hu:W.ownsRow lo e sz u n ys) (r3:ix t t'∨(t'.ownBlock=some (W.heap.size+1)∧W.grownBy W' none)):gZ t' u:=by
 rcases r3 with⟨g,n,m,cap,e1,e2⟩|⟨e1,_⟩
 ·subst e1 e2;exact fun q hq=>h q (by simpa [Value.ownBlock]using hq)
 ·intro q hq uw;rw[e1]at hq;injection hq with hq
  have:=(hu.lt q uw).2;omega
theorem AW.afJ (h:AW w rs k [] v vo W):DpR w rs k [] v vo W:=⟨⟨_,_,h⟩,h.own,h.out,h.apart,h.below⟩
theorem AW.afK {x:Nat} {t:List Nat} (h:AW w rs k u (.slice (some ⟨g,0,none⟩) n c) vo W) (hu:gY u=x::t) (hx:0<x) (hb:w.heap.size≤g):
  DpR w rs k u (.slice (some ⟨g,0,none⟩) n c) vo (W.setCell ⟨g,t.length,none⟩ (.int .i64 ((x:Int)-1))):=by
 have ho:=h.own;rw[hu]at ho;have hm:u.map (· -1)=(x-1)::t:=by
  cases u with
  |nil=>cases hu
  |cons y s=>injection hu with e1 e2;rw[kO,e1,e2]
 have hg: ∀v,W.grownBy (W.setCell ⟨g,t.length,none⟩ v) (some g):=fun v=>⟨rfl,by first|rfl|simp,rfl,by simp,fun k _ bZ=>yJ W ⟨g,_,none⟩ _ k (by rintro rfl;exact bZ rfl)⟩
 rw[show (x:Int)-1=((x-1:Nat):Int)by omega];exact⟨⟨_,_,h⟩,by rw[hm];exact ho.dec (x-1),h.out.kept (hg _) (s9 h.apart.symm),h.apart,h.below.setCell (p:=⟨g,_,none⟩) hb _⟩
theorem DpR.next {w:World} {rs:List PR} {k:Nat} {u:List Nat} {v vo:Value} {W:World} (h:DpR w rs k u v vo W) (hk:k<rs.length) {r:PR} (hr:r=rs[k]) (hu:norm u=u) (hs:k=0∨u≠[]) (h0:0≤r.kids) (qY:r.kids≤rs.length)
  {v1 vo1:Value} {W1 W2:World} (vu:W1.ownsRow w.heap.size 3 1 vo1 (k+1) ((aU [1] (rs.take k)).map tB++[.int .i64 ((u.length:Int)+1)])) (nf:W.grownBy W1 vo.ownBlock) (qK:ix vo vo1∨(vo1.ownBlock=some (W.heap.size+1)∧W.grownBy W1 none))
  (zT:W2.ownsRow w.heap.size 3 1 v1 (u.length+1) ((u.map (· -1)).reverse.map tB++[.int .i64 r.kids])) (qZ:W1.grownBy W2 v.ownBlock) (vq:ix v v1∨(v1.ownBlock=some (W1.heap.size+1)∧W1.grownBy W2 none)):AW w rs (k+1) (nk r::u) v1 vo1 W2:=by
 obtain⟨v0,W0,hi⟩:=h.at_;have a1:gZ vo1 v:=zy h.apart.symm h.own qK;have l1:=h.own.kept nf (s9 h.apart);have a2:gZ v1 vo1:=zy a1.symm vu vq;have aW:Below w.heap.size w W1:=h.below.grown nf h.below.size fun q hq=>(h.out.lt q hq).1
 have aN:Below w.heap.size w W2:=aW.grown qZ aW.size fun q hq=>(l1.lt q hq).1
 refine hi.next hk hr hu hs h0 (by unfold nk;omega) (dL.push (k:=nk r) (s:=u.map (· -1)) ?_) ?_ a2 aN
 ·rw[jW,show ((nk r:Nat):Int)=r.kids by unfold nk;omega];exact zT
 ·rw[mX];exact vu.kept qZ (s9 a1)
theorem Q5 (hk:k<rs.length) (h:(rs.length:Int)<rs[k].kids):dO rs=false:=by
 refine CN ?_;rw[dY hk];exact CJ (by rw[←dY hk];unfold nk;omega)
theorem CO (h:lP b w v rs) (hlen:rs.length≤1048576):
  Calls prog 10 #[v] w (im w rs):=by
 obtain⟨ao,c,rfl,hc⟩:=h;have HC:=aa hc;clear hc;go_enter func10,ntmps10;go_wp2_with fail;go_loopw [4,5,6] (fun t4 t5 t6 wr=> ∃(k:Nat) (u:List Nat),t6= .int .i64 (k:Int)∧Hid (AW w rs k u t4 t5 wr)) (fun _ _ t6 _=>rs.length-(intOf t6).toNat)
 case atStart=>exact⟨0,[],rfl,aa (AW.start w rs)⟩
 case round=>
  obtain⟨k,u,rfl,hI⟩:=hrel;obtain⟨av,cv,rfl⟩:=hI.out.own.sl;obtain⟨a5,n5,c5,rfl⟩:=cu hI.out.out;obtain⟨wo,rfl⟩: ∃wo:World,wo=wr:=⟨_,rfl⟩;by_cases ax:k<rs.length
  ·have p1:((k:Int)<(rs.length:Int))=True:=aA (by omega);obtain⟨g,o,rfl,_,hg,vm,vo,vi,vl,_,bh⟩:=HC.out k ax;obtain⟨r,hr⟩: ∃r,r=rs[k]:=⟨_,rfl⟩;have jQ:=bh 1 (by omega);rw[←hr]at jQ;have HCW:Hid (∀W,Below w.heap.size w W→W.cell? ⟨g,o+k*17+1,none⟩=some (.int .i64 r.kids)):=aa fun W hb=>(hb.cell (p:=⟨g,_,none⟩) hg).trans jQ
   have HR:=aa hr;clear bh jQ hr hg;go_wp2_with fail;go_loopw [4] (fun t4 wx=> ∃u':List Nat,Hid (AW w rs k u' t4 (.slice a5 n5 c5) wx)) (fun t4 _=>rT t4)
   case atStart=>exact⟨u,hI⟩
   case round=>
    obtain⟨u',hJ⟩:=hrel;obtain⟨a6,c6,hv6⟩:=hJ.out.own.sl;subst hv6;have vK:(gY u').length≤1048576:=by rw[Cd];have:=hJ.out.Oh;omega
    have c1:=HCW.out _ hJ.out.below;rcases Nl (gY u')with h0|⟨t,h0⟩|⟨x,t,h0,hx⟩
    rotate_left
    ·have hn:(gY u').length=t.length+1:=by rw[h0];rfl
     rw[hn]at vK;simp only[hn]at hJ ⊢
     obtain⟨g6,c7,h6,SO,hg6⟩:=hJ.out.own.form.resolve_left (fun h=>by rw[h0]at h;cases h.2);injection h6 with e1 e2 e3
     subst e1 e3;have ho:=hJ.out.own;rw[h0]at ho;have m1:=ho.top.1;have uH:=ho.cap;obtain⟨u2,Ls,hD⟩:=hJ.out.pop h0 rfl rfl;have HD:=aa hD;clear ho hD hJ hI e2 Ls hn;go_wp2_with fail;exact⟨⟨u2,HD⟩,by simp[rT]⟩
    case' inl=>
     obtain rfl:u'=[]:=by
      cases u' with
      |nil=>rfl
      |cons c s=>cases h0
     simp only[gY,nW]at hJ ⊢
     have lS:(k=0∧((0:Int)<(k:Int))=False∧(0<k)=False)∨(0<k∧((0:Int)<(k:Int))=True∧(0<k)=True):=by
      rcases jS k with e|e
      ·exact .inl ⟨e,bU (by omega),bU (by omega)⟩
      ·exact .inr ⟨e,aA (by omega),aA e⟩
     rcases lS with⟨e,p2,p3⟩|⟨e,p2,p3⟩
     rotate_left
     ·have HP:=aa (im.no (hJ.out.full ax e) hJ.out.below);clear hJ hI;go_wp2_with fail;go_ret2;exact HP.out
     have HJB:=aa hJ.out.below;obtain⟨u',HU,HS,FY⟩: ∃u':List Nat,Hid (norm u'=u')∧Hid (k=0∨u'≠[])∧Hid (DpR w rs k u' (.slice a6 0 c6) (.slice a5 n5 c5) wr):=⟨[],aa fT,aa (.inl e),aa hJ.out.afJ⟩;clear e hJ
    case' inr.inr=>
     have hn:(gY u').length=t.length+1:=by rw[h0];rfl
     rw[hn]at vK;simp only[hn]at hJ ⊢
     obtain⟨g6,c7,h6,SO,hg6⟩:=hJ.out.own.form.resolve_left (fun h=>by rw[h0]at h;cases h.2);injection h6 with e1 e2 e3
     subst e1 e3;have ho:=hJ.out.own;rw[h0]at ho;have m1:=ho.top.1;have m2:=ho.top.2;have uH:=ho.cap;have q1:((x:Int)==0)=false:=by rw[bN];omega
     have q2:((t.length:Int)+1==0)=false:=by rw[bN];omega
     have lS:0<k:=by
      have h1:=hJ.out.Oh;have h2:=Cd u';omega
     have p2:((0:Int)<(k:Int))=True:=aA (by omega);have p3:(0<k)=True:=aA lS;have HU:Hid (norm u'=u'):=aa (Q4 (.inr ⟨x,t,h0,hx⟩));have HS:Hid (k=0∨u'≠[]):=aa (.inr (by rintro rfl;cases h0));have FY:=aa (hJ.out.afK h0 hx SO);have HJB:=aa hJ.out.below;have Sl:x≤1048576:=by
      have h1:=Yx hJ.out.kids x (by rw[h0];simp);omega
     clear ho hJ e2 hn lS hg6 SO
    all_goals
     clear hI h0;have ajz:(r.kids<0)∨((rs.length:Int)<r.kids)∨(0≤r.kids∧r.kids≤rs.length):=by omega
     rcases ajz with hk|hk|⟨mU,zU⟩
     ·have HP:=aa (im.no (KE ax (by rw[←HR.out];exact hk)) HJB.out);have k1:(r.kids<0)=True:=aA hk;clear hk;go_wp2_with fail;go_ret2;exact HP.out
     ·have HP:=aa (im.no (Q5 ax (by rw[←HR.out];exact hk)) HJB.out);have k1:(r.kids<0)=False:=bU (by omega);have k2:((rs.length:Int)<r.kids)=True:=aA hk;clear hk;go_wp2_with fail;go_ret2;exact HP.out
     ·have k1:(r.kids<0)=False:=bU (by omega);have k2:((rs.length:Int)<r.kids)=False:=bU (by omega);go_upto_if 58 with(fail)
      go_cut [4]from 56 to 66 (fun t4 wx=> ∃a4 n4 c4,t4= .slice a4 n4 c4∧Hid (DpR w rs k u' (.slice a4 n4 c4) (.slice a5 n5 c5) wx))
      case first=>
       go_wp2_with fail;go_meet;exact⟨_,_,_,rfl,FY⟩
      case rest=>
       obtain⟨a4,n4,c4,rfl,hR⟩:=hcut;obtain rfl:n4=u'.length:=by
        obtain⟨_,_,e⟩:=hR.out.own.sl;injection e with _ e _
        rw[e,jW]
       have hul:u'.length≤1048576:=by
        obtain⟨v0,W0,hi⟩:=hR.out.at_;have:=hi.Oh;omega
       have aaW:=aa hR.out.out;have HRS:Hid (w.heap.size≤wc.heap.size):=aa hR.out.below.size;have HK:=aa (And.intro mU zU);clear mU zU c1;go_wp2_with ((at_builtin;refine jM rfl (.tmp 67) (.tmp 71) 33 rfl w.heap.size 3 (.int .i64 0) 1 8 Ca underlying33 rfl (by decide) _ k _ rfl aaW.out [.int .i64 ((u'.length:Int)+1)] rfl rfl (zZ rfl) (by unfold maxLen;omega) (by omega) HRS.out ?_));intro vo1 W5 vu nf qK;obtain⟨a7,n7,c7,rfl⟩:=cu vu;obtain⟨ys,hys⟩: ∃ys,ys=(u'.map (· -1)).reverse.map tB:=⟨_,rfl⟩;have afL:Hid (W5.ownsRow w.heap.size 3 1 (.slice a4 u'.length c4) u'.length ys):=aa (by
        have:=hR.out.own.kept nf (s9 hR.out.apart);rw[jW]at this;rw[hys];exact this)
       have HYS:=aa hys;have pc:Hid (Below w.heap.size w W5):=aa (hR.out.below.grown nf hR.out.below.size fun q hq=>(hR.out.out.lt q hq).1);have c1:=HCW.out _ pc.out;have H1:=aa (And.intro vu (And.intro nf qK));clear vu nf qK hys;go_wp2_with ((at_builtin;refine jM rfl (.tmp 73) (.tmp 79) 33 rfl w.heap.size 3 (.int .i64 0) 1 8 Ca underlying33 rfl (by decide) _ u'.length _ rfl afL.out [.int .i64 r.kids] rfl rfl (zZ rfl) (by unfold maxLen;omega) (by omega) pc.out.size ?_));intro v1 W6 zT qZ vq;obtain⟨a8,n8,c8,rfl⟩:=cu zT;rw[HYS.out]at zT;have HN:=aa (hR.out.next ax HR.out HU.out HS.out HK.out.1 HK.out.2 H1.out.1 H1.out.2.1 H1.out.2.2 zT qZ vq);clear zT qZ vq;go_wp2_with fail;exact⟨⟨k+1,nk r::u',by go_num,HN⟩,gN ax⟩
  ·have p1:((k:Int)<(rs.length:Int))=False:=bU (by omega);obtain rfl:k=rs.length:=by have:=hI.out.le;omega
   have HD:=aa hI.out.done;have aeH:=aa (JX u hI.out.pos);have vK:(gY u).length≤1048576:=by rw[Cd];have:=hI.out.Oh;omega
   have xM:=aa hI.out.own;have HB:=aa hI.out.below;have aaW:=aa hI.out.out;clear hI;go_wp2_with fail;go_loopw [7] (fun t7 wx=> ∃j:Nat,t7= .int .i64 (j:Int)∧wx=wo∧Hid (j≤(gY u).length∧ ∀i (h:i<(gY u).length),i<j→(gY u).reverse[i]'(by simpa using h)=0)) (fun t7 _=>(gY u).length-(intOf t7).toNat)
   case atStart=>exact⟨0,rfl,rfl,aa ⟨dQ _,fun i _ h=>absurd h (Nat.not_lt_zero _)⟩⟩
   case round=>
    obtain⟨j,rfl,rfl,hJ⟩:=hrel;by_cases hj:j<(gY u).length
    ·have q1:((j:Int)<((gY u).length:Int))=True:=aA (by omega);obtain⟨g6,c7,h6,_,hg6⟩:=xM.out.form.resolve_left (fun h=>by rw[h.2]at hj;simp at hj);injection h6 with e1 e2 e3
     subst e1 e3;obtain⟨x,hx⟩: ∃x,x=(gY u).reverse[j]'(by simpa using hj):=⟨_,rfl⟩;have c0:wr.cell? ⟨g6,j,none⟩=some (.int .i64 (x:Int)):=by
      rw[IY xM.out j (by simpa using hj),hx];exact(eG (by simpa using hj)).trans (by rw[List.getElem_map];rfl)
     have HX:=aa hx;by_cases h0:x=0
     ·have q2:((0:Int)<(x:Int))=False:=bU (by omega);have q3:(0<x)=False:=bU (by omega);have HN:Hid (j+1≤(gY u).length∧ ∀i (h:i<(gY u).length),i<j+1→(gY u).reverse[i]'(by simpa using h)=0):=aa ⟨hj,fun i h hi=>by
       by_cases Xs:i<j
       ·exact hJ.out.2 i h Xs
       ·obtain rfl:i=j:=by omega
        rw[←HX.out,h0]⟩
      clear h0 hx hJ;go_wp2_with fail;go_roundw
      case rel=>exact⟨j+1,by go_num,by first|rfl|trivial,HN⟩
      case measure=>simp[intOf];omega
     ·have q2:((0:Int)<(x:Int))=True:=aA (by omega);have q3:(0<x)=True:=aA (by omega);have HP:=aa (im.no (w:=w) (rs:=rs) (by
       rw[HD.out,Bool.and_eq_false_iff];refine .inr (gA fun e=>h0 ?_);exact aeH.out.2 e x (by rw[hx];exact List.mem_reverse.1 (jz _))) HB.out)
      clear h0 hx hJ;go_wp2_with fail;go_ret2;exact HP.out
    ·have q1:((j:Int)<((gY u).length:Int))=False:=bU (by omega);have hz:norm u=[]:=aeH.out.1 fun c hc=>by
      obtain⟨i,hi,rfl⟩:=List.mem_iff_getElem.1 (List.mem_reverse.2 hc);rw[List.length_reverse]at hi;exact hJ.out.2 i hi (by omega)
     have HDB:Hid (dO rs=decide (0<rs.length)):=aa (by rw[HD.out,hz];simp);have HP:Hid (im w rs (.returned (.tuple #[.slice a5 n5 c5,.bool (decide (0<rs.length))])) wr):=aa (by
      refine⟨a5,n5,c5,by rw[HDB.out],?_,HB.out⟩;have ho:=aaW.out;rw[qO]at ho;unfold dv;rw[HDB.out];rcases jS rs.length with h|h
      ·obtain rfl:=pv.1 h;exact ho
      ·have h2:=ho.1;simp only[jW]at h2;rw[au (dR h),show (aU [1] rs).length=rs.length by omega];exact ho)
     clear hz hJ;have hl:(((0:Int)<(rs.length:Int))=False∧(0<rs.length)=False∧rs.length=0)∨(((0:Int)<(rs.length:Int))=True∧(0<rs.length)=True∧0<rs.length):=by
      rcases jS rs.length with h|h
      ·exact .inl ⟨bU (by omega),bU (by omega),h⟩
      ·exact .inr ⟨aA (by omega),aA (by omega),h⟩
     rcases hl with⟨l1,l2,l3⟩|⟨l1,l2,l3⟩
     ·rw[gA (by omega)]at HP;clear l3;go_wp2_with fail;go_ret2;exact HP.out
     ·rw[dR l3]at HP;clear l3;go_wp2_with fail;go_ret2;exact HP.out
theorem Pc:iO l≤m↔ ∀x∈l,x≤m:=by
 induction l with
 |nil=>simp[iO]
 |cons a l ih=>rw[oY,Nat.max_le,ih];simp
theorem CP: ∀(rs:List PR) (ds:List Nat) (m:Nat),(∀d∈ds,d≤m)→ ∀d∈aU ds rs,d≤m+rs.length
 |[],ds,m,_,d,hd=>by rw[iD]at hd;cases hd
 |r::rs,[],m,_,d,hd=>by cases hd
 |r::rs,a::ds,m,h,d,hd=>by
  rw[aU]at hd;rcases gB.1 hd with rfl|hd
  ·have:=h _ (OI ..);omega
  ·have:=CP rs (List.replicate (nk r) (a+1)++ds) (m+1) (fun x hx=>by
    rcases qx.1 hx with hx|hx
    ·have h1:=(I2.1 hx).2;have:=h a (OI ..);omega
    ·have:=h x (yH _ hx);omega) d hd
   rw[dZ];omega
theorem KF (rs:List PR): ∀d∈dv rs,d≤1+rs.length:=by
 unfold dv;split
 ·exact CP rs [1] 1 (by simp)
 ·intro d hd;cases hd
theorem Fo (h:w.ownsRow b e 1 (.slice (some ⟨g,0,none⟩) n c) n (l.map tB)) {j:Nat} (hj:j<l.length):w.cell? ⟨g,j,none⟩=some (.int .i64 (l[j]:Int)):=by
 have hl:l.length=n:=by have:=h.1;simpa using this
 rw[h.cellAt j (by omega)];exact(eG (by simpa using hj)).trans (by rw[List.getElem_map];rfl)
theorem JY {a:Option Addr} (h:w.ownsRow b e 1 (.slice a n c) m (l.map tB)):n=l.length∧m=l.length∧(0<l.length→ ∃g,a=some ⟨g,0,none⟩):=by
 have hl:l.length=m:=by have:=h.1;simpa using this
 rcases h.2 with⟨hv,h0⟩|⟨g,cap,cur,hv,_⟩
 ·injection hv with e1 e2 e3
  exact⟨by omega,hl.symm,fun h=>by omega⟩
 ·injection hv with e1 e2 e3
  exact⟨by omega,hl.symm,fun _=>⟨g,e1⟩⟩
theorem Q6 (h:lP b w v rs) (hlen:rs.length≤1048576):
  Calls prog 19 #[v] w (fN w (iO (dv rs):Nat)):=by
 have HC:=aa (CO h hlen);have HF:=aa (KF rs);have HE:Hid (dO rs=false→dv rs=[]):=aa fun h=>by unfold dv;rw[h];rfl
 have HL:Hid (dO rs=true→(dv rs).length=rs.length):=aa sj;obtain⟨D,hD⟩: ∃D,D=dv rs:=⟨_,rfl⟩;rw[←hD]at HF HE HL ⊢
 have HD:=aa hD;clear h hD;go_enter func19,ntmps19;go_wp2_with fail;refine HC.out.mono ?_;rintro e w1 ⟨a,n,c,rfl,ho,hb⟩;rw[←HD.out]at ho;obtain⟨rfl,_,hg⟩:=JY ho;have HO:=aa ho;have HB:=aa hb;have HG:=aa hg;clear HC ho hb hg;cases hd:dO rs with
 |false=>
  have h0:=HE.out hd;subst h0;clear hd HE HL;simp only[nW];go_wp2_with fail;go_loopw [5,6] (fun t5 t6 W=>t5= .int .i64 0∧t6= .int .i64 0∧W=w1) (fun _ _ _=>0)
  case atStart=>exact⟨rfl,rfl,rfl⟩
  case round=>
   obtain⟨rfl,rfl,rfl⟩:=hrel;go_wp2_with fail;go_ret;exact⟨rfl,HB.out⟩
 |true=>
  have hl:=HL.out hd;have Az:D.length≤1048576:=by omega
  clear hd HE HL hl;go_wp2_with fail;go_loopw [5,6] (fun t5 t6 W=> ∃j:Nat,t6= .int .i64 (j:Int)∧t5= .int .i64 ((iO (D.take j):Nat):Int)∧Hid (j≤D.length)∧W=w1) (fun _ t6 _=>D.length-(intOf t6).toNat)
  case atStart=>exact⟨0,rfl,rfl,aa (dQ _),rfl⟩
  case round=>
   obtain⟨j,rfl,rfl,hj,rfl⟩:=hrel;by_cases ax:j<D.length
   ·have p1:((j:Int)<(D.length:Int))=True:=aA (by omega);have p2:(j<D.length)=True:=aA ax;obtain⟨g,rfl⟩:=HG.out (by omega);have c0:=Fo HO.out ax;have HM:Hid (max ((iO (D.take j):Nat):Int) (D[j]:Int)=((iO (D.take (j+1)):Nat):Int)):=aa (by rw[jy ax,Fi];omega);generalize iO (D.take j)=m at HM ⊢
    generalize D[j]=d at c0 HM;go_wp2_with fail;rw[HM.out];go_roundw
    case rel=>exact⟨j+1,by go_num,rfl,aa ax,by first|rfl|trivial⟩
    case measure=>simp[intOf];omega
   ·have p1:((j:Int)<(D.length:Int))=False:=bU (by omega);have p2:(j<D.length)=False:=bU ax;have HM:Hid (iO (D.take j)=iO D):=aa (by rw[A3 (by omega)]);go_wp2_with fail;go_ret;exact⟨by rw[HM.out];rfl,HB.out⟩
theorem U1 (w:World) (k:Int) (h1: ¬k=1) (h2: ¬k=2) (h3: ¬k=3) (h4: ¬k=4) (h5: ¬k=5) (h6: ¬k=6) (h7: ¬k=7) (h8: ¬k=8) (h9: ¬k=9) (kids:Int) (op text bV step off tim:ByteArray) (bool given on without:Bool) (card:Int) (ms:List PM) (mls inc labels:List ByteArray) (am ao ai al:Option Addr) (nm cm no co ni ci nl cl:Nat)
  (h:bw 0 w ⟨k,kids,op,text,ms,bV,step,off,tim,bool,given,on,mls,card,inc,without,labels⟩ (.slice am nm cm) (.slice ao no co) (.slice ai ni ci) (.slice al nl cl)):
  Calls prog 77 #[.agg #[.int .i64 k,.int .i64 kids,.string op,.string text,.slice am nm cm,.string bV,.string step,.string off,.string tim,.bool bool,.bool given,.bool on,.slice ao no co,.int .i64 card,.slice ai ni ci,.bool without,.slice al nl cl]] w (qD w (gz ⟨k,kids,op,text,ms,bV,step,off,tim,bool,given,on,mls,card,inc,without,labels⟩)):=by
 have HL:=aa h;have b1:(k==1)=false:=by simpa using h1
 have b2:(k==2)=false:=by simpa using h2
 have b3:(k==3)=false:=by simpa using h3
 have b4:(k==4)=false:=by simpa using h4
 have b5:(k==5)=false:=by simpa using h5
 have b6:(k==6)=false:=by simpa using h6
 have b7:(k==7)=false:=by simpa using h7
 have b8:(k==8)=false:=by simpa using h8
 have b9:(k==9)=false:=by simpa using h9
 clear h;go_enter func77,ntmps77;go_wp2_with (refine ay rfl 46 (.tmp 2) (.tmp 40) rfl (w.heap.size+1) _ rfl rfl (fw _ _ _ _) aQ rfl rfl ?_);intro W' hz jw;go_wp2_with fail;exact cB (aZ results77 rfl hz underlying46 aQ) rfl (od (r:=gz ⟨k,kids,op,text,ms,bV,step,off,tim,bool,given,on,mls,card,inc,without,labels⟩) (m:=(.slice am nm cm)) (o:=(.slice ao no co)) (i:=(.slice ai ni ci)) (l:=(.slice al nl cl)) (by simp only[gz,bw,h1,h2,h3,h4,h5,h6,h7,h8,h9];simp;exact⟨HL.out.1,HL.out.2.1,HL.out.2.2.1,HL.out.2.2.2⟩) jw (by simp[gz,dS,eS,h1,h2,h3,h4,h5,h6,h7,h8,h9]))
def jj (b:Nat) (w w':World):Prop:=w.heap.size≤w'.heap.size∧ ∀k,b≤k→k<w.heap.size→w'.heap[k]? =w.heap[k]?
theorem jj.cell {b:Nat} {w w':World} (h:jj b w w') {g o:Nat} (hb:b≤g) (hg:g<w.heap.size):w'.cell? ⟨g,o,none⟩=w.cell? ⟨g,o,none⟩:=World.cell?_of_block (h.2 g hb hg)
theorem jj.refl (b:Nat) (w:World):jj b w w:=⟨aS _,fun _ _ _=>rfl⟩
theorem jj.below (h:jj b w w') (hb:Below w'.heap.size w' Zk):jj b w Zk:=⟨bP h.1 hb.size,fun k h1 h2=>(hb.block k (gU h2 h.1)).trans (h.2 k h1 h2)⟩
def Off (b:Nat) (w:World) (v:Value):Prop:= ∀q,v.ownBlock=some q→q<b∨w.heap.size≤q
theorem jj.grow (h:jj b w w') (hg:w'.grownBy Zk v.ownBlock) (ho:Off b w v):jj b w Zk:=
 ⟨bP h.1 hg.size,fun k h1 h2=>(hg.block k (gU h2 h.1) (fun e=>by rcases ho k e.symm with h3|h3<;>omega)).trans (h.2 k h1 h2)⟩
theorem cU.agree (h:cU b w v ss) (hB:jj b w w'):cU b w' v ss:=by
 obtain⟨ao,c,h1,h2⟩:=h;refine⟨ao,c,h1,fun j hj=>?_⟩;obtain⟨g,o,a,l,u,x⟩:=h2 j hj;exact⟨g,o,a,l,gU u hB.1,(hB.cell l u).trans x⟩
theorem eI.agree (h:eI b w v ms) (hB:jj b w w'):eI b w' v ms:=by
 obtain⟨ao,c,h1,h2⟩:=h;refine⟨ao,c,h1,fun j hj=>?_⟩;obtain⟨g,o,a,l,u,x,y,z⟩:=h2 j hj;exact⟨g,o,a,l,gU u hB.1,(hB.cell l u).trans x,(hB.cell l u).trans y,(hB.cell l u).trans z⟩
theorem pL.agree (h:pL b w v ks) (hB:jj b w w'):pL b w' v ks:=by
 obtain⟨ao,c,h1,h2⟩:=h;refine⟨ao,c,h1,fun j hj=>?_⟩;obtain⟨g,o,a,l,u,x⟩:=h2 j hj;exact⟨g,o,a,l,gU u hB.1,(hB.cell l u).trans x⟩
theorem ba.agree {b:Nat} {w w':World} {v:Value} {r:PR} {ks:List Value} (h:ba b w v r ks) (hB:jj b w w'):ba b w' v r ks:=by
 cases h with
 |number g hb hg t c0=>exact .number g hb (gU hg hB.1) t ((hB.cell hb hg).trans c0)
 |text g hb hg t c0=>exact .text g hb (gU hg hB.1) t ((hB.cell hb hg).trans c0)
 |selector g hb hg t off tim vm ms hm c0 c1 c2 c3=>exact .selector g hb (gU hg hB.1) t off tim vm ms (hm.agree hB) ((hB.cell hb hg).trans c0) ((hB.cell hb hg).trans c1) ((hB.cell hb hg).trans c2) ((hB.cell hb hg).trans c3)
 |range g hb hg d p c0 c1=>exact .range g hb (gU hg hB.1) d p ((hB.cell hb hg).trans c0) ((hB.cell hb hg).trans c1)
 |subquery g hb hg d s off tim t x c0 c1 c2 c3 c4=>exact .subquery g hb (gU hg hB.1) d s off tim t x ((hB.cell hb hg).trans c0) ((hB.cell hb hg).trans c1) ((hB.cell hb hg).trans c2) ((hB.cell hb hg).trans c3) ((hB.cell hb hg).trans c4)
 |unary g hb hg o t x c0 c1=>exact .unary g hb (gU hg hB.1) o t x ((hB.cell hb hg).trans c0) ((hB.cell hb hg).trans c1)
 |binary g hb hg o t u x y bo gi on vl vi ls inc card hl hi c0 c1 c2 c3 c4 c5 c6 c7 c8=>exact .binary g hb (gU hg hB.1) o t u x y bo gi on vl vi ls inc card (hl.agree hB) (hi.agree hB) ((hB.cell hb hg).trans c0) ((hB.cell hb hg).trans c1) ((hB.cell hb hg).trans c2) ((hB.cell hb hg).trans c3) ((hB.cell hb hg).trans c4) ((hB.cell hb hg).trans c5) ((hB.cell hb hg).trans c6) ((hB.cell hb hg).trans c7) ((hB.cell hb hg).trans c8)
 |call g hb hg o va ks hk c0 c1=>exact .call g hb (gU hg hB.1) o va ks (hk.agree hB) ((hB.cell hb hg).trans c0) ((hB.cell hb hg).trans c1)
 |aggr g hb hg o t x wo vl ls hl c0 c1 c2 c3 c4=>exact .aggr g hb (gU hg hB.1) o t x wo vl ls (hl.agree hB) ((hB.cell hb hg).trans c0) ((hB.cell hb hg).trans c1) ((hB.cell hb hg).trans c2) ((hB.cell hb hg).trans c3) ((hB.cell hb hg).trans c4)
 |aggr2 g hb hg o t u x y wo vl ls hl c0 c1 c2 c3 c4=>exact .aggr2 g hb (gU hg hB.1) o t u x y wo vl ls (hl.agree hB) ((hB.cell hb hg).trans c0) ((hB.cell hb hg).trans c1) ((hB.cell hb hg).trans c2) ((hB.cell hb hg).trans c3) ((hB.cell hb hg).trans c4)
theorem dK.agree {b:Nat} {w w':World} (hB:jj b w w') {d:Nat} {v:Value} {L:List (Nat×PR)} (h:dK b w d v L):dK b w' d v L:=by
 induction h with
 |mk d v r ks cV h0 _ ih=>exact .mk d v r ks cV (h0.agree hB) fun i hi=>ih i hi
def vM (k:Nat) (w:World) (v:Value) (m:Nat) (news:List Value):Prop:=
 ∃ao c,v= .slice ao m c∧news.length=m*k∧(∀u∈news,u.oneCell'=true)∧((ao=none∧m=0)∨ ∃ad,ao=some ad∧ ∀j u,news[j]? =some u→w.cell? (ad.add j)=some u)
theorem vM.below (h:vM k w v m news) (hb:Below w.heap.size w w'):vM k w' v m news:=by
 obtain⟨ao,c,h1,h2,h3,h4⟩:=h;refine⟨ao,c,h1,h2,h3,h4.imp id ?_⟩;rintro⟨ad,e,h5⟩;refine⟨ad,e,fun j u hu=>?_⟩;have h6:=h5 j u hu;refine(hb.cell ?_).trans h6;rcases dF (ad.add j).block w.heap.size with ax|mg
 ·exact ax
 ·unfold World.cell? at h6;rw[Be mg]at h6;simp at h6
theorem tC (base:Nat) (t ty e:TypeId) (i:TypeInfo) (size:Nat) (ht:P.underlying t=some (.slice e)) (hi:P.info? e=some i)
  (v:Value) (n c:Nat) (xs:List Value) (aL:w.ownsRow base e size v n xs):
  (Builtin.append_ #[t,t] ty #[v,.slice none 0 c]).run P w= .ok v w:=by
 rcases aL.2 with⟨rfl,rfl⟩|⟨g,cap,cur,rfl,_,_,hnc,_⟩
 ·simp[Builtin.append_,run_underlying ht,sizeOf,typeInfo,hi,Builtin.lenOf,Builtin.firstCells]
 ·simp[Builtin.append_,run_underlying ht,sizeOf,typeInfo,hi,Builtin.lenOf,Builtin.firstCells,hnc,storeCells]
theorem sA (w:World) (base:Nat) (t ty e:TypeId) (z:Value) (size bytes:Nat) (jD:(P.info? e).map (fun i=>(i.zero,i.size,i.bytes))=some (some z,size,bytes)) (ht:P.underlying t=some (.slice e))
  (yA:z.cells.size=size) (iE:0<size) (v:Value) (n:Nat) (xs:List Value) (aL:w.ownsRow base e size v n xs) (u:Value) (m:Nat) (news:List Value) (Tb:vM size w u m news)
  (pC:n+m≤maxLen) (hb:(n+m)*bytes≤140737488355328) (cN:base≤w.heap.size):
  ∃v' w',(Builtin.append_ #[t,t] ty #[v,u]).run P w= .ok v' w'∧w'.ownsRow base e size v' (n+m) (xs++news)∧w.grownBy w' v.ownBlock:=by
 obtain⟨i,hi,hz,H8,H9⟩:=kR jD;obtain⟨ao,c,rfl,hl,h1,h2⟩:=Tb;rcases h2 with⟨rfl,rfl⟩|⟨ad,rfl,hc⟩
 ·have h0:news=[]:=pv.1 (by simpa using hl);subst h0;refine⟨v,w,tC base t ty e i size ht hi v n c xs aL,by simpa using aL,rfl,rfl,rfl,aS _,fun _ _ _=>rfl⟩
 ·obtain⟨v',w',hr,ho,hg,_⟩:=run_append_own (P:=P) w base t ty e i z size bytes ht hi hz H8 H9 yA iE v n xs aL ad m c news hl hc h1 pC hb cN;exact⟨v',w',hr,ho,hg⟩
theorem gu 
  (hg:o.guard=none) (s x:Operand) (t:TypeId) (vp:o.op=Op.call {callee:=Callee.builtin Builtin.append,args:=#[s,x],argTypes:=#[t,t]})
  (base:Nat) (e:TypeId) (z:Value) (size bytes:Nat) (jD:(P.info? e).map (fun i=>(i.zero,i.size,i.bytes))=some (some z,size,bytes)) (h1:P.underlying t=some (.slice e)) (yA:z.cells.size=size) (iE:0<size)
  (v:Value) (n:Nat) (xs:List Value) (hs:a.eval s=v) (aL:w.ownsRow base e size v n xs) (u:Value) (m:Nat) (news:List Value) (hx:a.eval x=u) (Tb:vM size w u m news)
  (pC:n+m≤maxLen) (hb:(n+m)*bytes≤140737488355328) (cN:base≤w.heap.size)
  (hK: ∀v' w',w'.ownsRow base e size v' (n+m) (xs++news)→w.grownBy w' v.ownBlock→wpList P ops Q rest (a.put o.dst v') w'):
  wpList P ops Q (o::rest) a w:=by
 refine wpList_plain hg fun K AV=>?_
 obtain⟨v',w',hr,r1,r2⟩:=sA (P:=P) w base t o.type e z size bytes jD h1 yA iE v n xs aL u m news Tb pC hb cN;unfold Oper.wp execOp;simp only[vp,resolve,invoke,builtin,rB,tR,vQ,I7,kO,rj,hs,hx,hr];exact AV _ _ (hK v' w' r1 r2)
theorem o8 {K:Act→World→Prop} {E:Prop} 
  (hg:o.guard=none) (s x:Operand) (t:TypeId) (vp:o.op=Op.call {callee:=Callee.builtin Builtin.append,args:=#[s,x],argTypes:=#[t,t]})
  (base:Nat) (e:TypeId) (z:Value) (size bytes:Nat) (jD:(P.info? e).map (fun i=>(i.zero,i.size,i.bytes))=some (some z,size,bytes)) (h1:P.underlying t=some (.slice e)) (yA:z.cells.size=size) (iE:0<size)
  (v:Value) (n:Nat) (xs:List Value) (hs:a.eval s=v) (aL:w.ownsRow base e size v n xs) (u:Value) (m:Nat) (news:List Value) (hx:a.eval x=u) (Tb:vM size w u m news)
  (pC:n+m≤maxLen) (hb:(n+m)*bytes≤140737488355328) (cN:base≤w.heap.size)
  (hK: ∀v' w',w'.ownsRow base e size v' (n+m) (xs++news)→w.grownBy w' v.ownBlock→K (a.put o.dst v') w'):
  if Region.wanted o (yielded ops a.tmps)=true then Oper.wp P o a w K Q else E:=by
 have hw:Region.wanted o (yielded ops a.tmps)=true:=by simp[Region.wanted,hg]
 rw[au hw];obtain⟨v',w',hr,r1,r2⟩:=sA (P:=P) w base t o.type e z size bytes jD h1 yA iE v n xs aL u m news Tb pC hb cN;unfold Oper.wp execOp;simp only[vp,resolve,invoke,builtin,rB,tR,vQ,I7,kO,rj,hs,hx,hr];exact hK v' w' r1 r2
theorem eI.src (h:eI b w v ms):vM 3 w v ms.length (ms.flatMap qR):=by
 obtain⟨ao,c,rfl,hc⟩:=h;refine⟨ao,c,rfl,rU qR 3 (fun _=>rfl) ms,fun u hu=>?_,?_⟩
 ·obtain⟨m,_,hm⟩:=I8.1 hu;simp only[qR,gB,kM,iP]at hm;rcases hm with rfl|rfl|rfl<;>rfl
 ·cases ms with
  |nil=>cases ao with
   |none=>exact .inl ⟨rfl,rfl⟩
   |some a=>exact .inr ⟨a,rfl,fun j u hu=>by simp at hu⟩
  |cons m ms=>
   obtain⟨g,o,rfl,_⟩:=hc 0 (by simp);refine .inr ⟨_,rfl,fun j u hu=>?_⟩;rw[ri];refine qe qR 3 (fun _=>rfl) (by decide) (m::ms) w g o (fun j hj i hi=>?_) j u hu;obtain⟨g',o',he,_,_,x,y,z⟩:=hc j hj;cases he
   match i,hi with
   |0,_=>exact x
   |1,_=>exact y
   |2,_=>exact z
