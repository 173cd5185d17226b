import Derived.Test.YtcdoilkjmjbgmaaGreatDoorW51
import Derived.Test.YtcdoilkjmjbgmaaGreatDoorW40
import Derived.Test.YtcdoilkjmjbgmaaGreatDoorW41
/- Part of the proof of YtcdoilkjmjbgmaaGreatDoorCardX: TwB TrZh TrYb TsZ TgA. -/
set_option maxRecDepth 100000
set_option maxHeartbeats 4000000
set_option linter.unusedVariables false
set_option linter.unusedSimpArgs false
namespace Go.Proofs.YtcdoilkjmjbgmaaGreatDoor
open Go.RowKit
open Go.Proofs.Tryz
variable {b bx l tb B d n:Nat} {w0 W w W' w' w1:World} {v t5 t6:Value} {L:List (Nat×PR)} {ks:List Value} {T:Nat→World→Prop} {rs:List PR} {k card:Int} {op text:ByteArray} {b1 b2 b3 b4:Bool} {r:PR}
theorem NC (h:gY b w0 v L) (fv:Nat) (lb:Array Value) (eg: ∀args w,(callFunc fv args).run prog w= .ok (.enter fv args) w) (J Jx:List (Nat×PR)→World→Prop)
  (hJ: ∀s A B,J s A→Below A.heap.size A B→J s B) {R:PR→Prop} (hV:xI b w0 fv lb J Jx (· <+:L) R) (hR: ∀x∈L,R x.2) (hW:Below w0.heap.size w0 W) (h0:J [] W) (hL:1+L.length≤1099511627776) (n:Nat):
  CallsIn Fence.wide n prog 34 #[v,.int .i64 1,.func (.func fv) #[] lb] W (wC w0.heap.size J Jx [] L W):=by
 rcases h with⟨rfl,rfl⟩|h
 ·refine oJ.2 ((JU 1 _ W).mono ?_);rintro e W' ⟨rfl,rfl⟩;exact .inl ⟨rfl,h0,Kept.refl _ _⟩
 ·exact Fz fv lb eg _ J _ hJ hV h hR n [] W hW h0 (fun q hq _=>by simpa using hq) hL
theorem YJ.fN {J:List WI→World→Prop} (hJ: ∀s A B,J s A→Below A.heap.size A B→J s B) (s:List (Nat×PR)) (A B:World) (h:YJ bx l J s A) (hb:Below A.heap.size A B):YJ bx l J s B:=by
 obtain⟨h1,xs,h2,h3⟩:=h;exact⟨h1.below hb h1.lt,xs,h2,hJ _ _ _ h3 hb⟩
theorem ND (h:gY b w0 v L) (Lj:Below w0.heap.size w0 w) (hc:w.cell? ⟨tb,0,none⟩=some v) (θ:tb<w.heap.size) (hR: ∀x∈L,iO x.2) (hL:1+L.length≤1099511627776) (n:Nat):
  aa9 Fence.wide n prog 33 #[.pointer (some ⟨tb,0,none⟩)] WI.DK (fun pre=>pre.map WI.key<+:L) WI.Px (mG w0.heap.size) (fun xs _=>xs.map WI.key=L) (fun pre _=>pre.map WI.key<+:L∧pre≠[]) w:=by
 intro l J Jx W hW hJ _ hY h0;have aM:Below w0.heap.size w0 (W.alloc (.cells #[.func (.yield l) #[] #[]] 76)):=(Lj.trans (hW.mono Lj.size)).alloc (bn Lj.size hW.size) _;have HW:=aa (fun k=>NC h 35 #[.pointer (some ⟨W.heap.size,0,none⟩)] (enters_of func35 (by kernel_rfl) rfl) (YJ W.heap.size l J) (YX Jx) (YJ.fN hJ) (Nz (m:=n-1) J Jx hY) hR aM ⟨aH.new _ _ _,[],rfl,hJ _ _ _ h0 ((aS _ W).alloc (aP _) _)⟩ hL k);have c0:W.cell? ⟨tb,0,none⟩=some v:=(hW.cell (p:=⟨tb,0,none⟩) θ).trans hc;have s0:tb<W.heap.size:=gO θ hW.size;clear h Lj hc θ hR hL hW hJ hY h0 aM;refine callsIn_of_wp func33 rfl trivial ?_ rfl;simp only[ntmps33,List.size_toArray,dI,oB,Nat.reduceAdd,Nat.reduceSub,Oo,Oq,List.push_toArray,Ou,vy,pJ]
 gi_wp2_with fail
 refine⟨trivial,fun h=>(by cases h),?_⟩;refine(HW _).mono ?_;rintro e W1 (⟨rfl,hj,_⟩|⟨rfl,q,hq,WC,hx⟩)
 ·have HJ1:=aa hj;clear hj HW
  gi_wp2_with fail
  go_end0
  obtain⟨_,xs,hk,hj⟩:=HJ1.out;exact⟨⟨_,rfl⟩,.inl ⟨xs,by simpa using hk,hj⟩⟩
 ·have WV:=aa hx;clear hx HW
  gi_wp2_with fail
  go_end0
  obtain⟨xs,hk,hj⟩:=WV.out;refine⟨⟨_,rfl⟩,.inr ⟨xs,⟨by rw[hk];simpa using hq,?_⟩,hj⟩⟩;rintro rfl;exact WC (by simpa using hk.symm)
theorem RD (v:Value) (w:World):Calls prog 11 #[.agg #[v]] w fun e w'=>e= .returned (.func (.func 33) #[] #[.pointer (some ⟨w.heap.size,0,none⟩)])∧w'=w.alloc (.cells #[v] 29):=by
 go_enter func11,ntmps11;go_wp2_with fail;go_ret;exact⟨rfl,rfl⟩
def qN (B:Nat) (d:Nat) (t5:Value) (W:World) (v:Value) (L:List (Nat×PR)):Prop:= ∃lo w1,dK lo w1 d v L∧B≤lo∧iH lo w1 W∧Off lo w1 t5
theorem qN.tree (h:qN B d t5 W v L):dK B W d v L:=by
 obtain⟨lo,w1,h1,h2,h3,_⟩:=h;exact(h1.agree h3).lo h2
theorem qN.below {B d:Nat} {t5:Value} {W W':World} {v:Value} {L:List (Nat×PR)} (h:qN B d t5 W v L) (hb:Below W.heap.size W W'):qN B d t5 W' v L:=by
 obtain⟨lo,w1,h1,h2,h3,h4⟩:=h;exact⟨lo,w1,h1,h2,h3.below hb,h4⟩
theorem qN.push (h:qN B d t5 W v L) (hg:W.grownBy W' t5.ownBlock) (ht:fl t5 t6∨(t6.ownBlock=some (W.heap.size+1)∧W.grownBy W' none)):qN B d t6 W' v L:=by
 obtain⟨lo,w1,h1,h2,h3,h4⟩:=h;refine⟨lo,w1,h1,h2,h3.grow hg h4,fun q hq=>?_⟩;rcases ht with⟨g,n,m,cap,e1,e2⟩|⟨e1,_⟩
 ·subst e1 e2;exact h4 q (by simpa [Value.ownBlock]using hq)
 ·rw[e1]at hq;injection hq with hq
  have:=h3.1;omega
structure aac (B:Nat) (w0 w:World) (d:Nat) (x' y:List PR) (n i:Nat) (A:Array Value) (t0 t5:Value) (W:World):Prop where
 le:i≤n
 box:aH W w.heap.size 46 A
 ks: ∃(ks:List Value) (cH:Nat→List (Nat×PR)) (c rem:List PR),ks.length=i∧x'=c++rem∧trees (n-i) rem=true∧((List.range i).flatMap cH).map (·.2)=c∧
  W.ownsRow w.heap.size 27 1 t5 i ks∧(∀j (h:j<ks.length),qN B (d+1) t5 W ks[j] (cH j))∧eA w0 t0 (rem++y)∧ ∀v∈ks,∃t x,v= .iface t x
 below:Below w.heap.size w W
theorem V3 {α:Type} (cH:Nat→List α) (i:Nat) (L:List α):((List.range (i+1)).flatMap fun j=>if j=i then L else cH j)=(List.range i).flatMap cH++L:=by
 rw[fb];have h1: ∀n,n≤i→(List.range n).flatMap (fun j=>if j=i then L else cH j)=(List.range n).flatMap cH:=by
  intro n;induction n with
  |zero=>intro _;rfl
  |succ n ih=>
   intro h;rw[fb,fb,ih (by omega),af (by omega)]
 rw[h1 i (aP _),ar rfl]
theorem Zr (h:w.ownsRow b 27 1 v ks.length ks):pU b w v ks:=by
 rcases h.2 with⟨hv,hn⟩|⟨g,cap,cur,hv,hb,_⟩
 ·refine⟨none,0,by rw[hv,hn],fun j hj=>absurd hj (by omega)⟩
 ·subst hv;refine⟨_,_,rfl,fun j hj=>⟨g,0,rfl,hb,(IQ h g rfl).2,?_⟩⟩;rw[mw,IG h j (by omega),lB hj]
theorem V4:(prog.info? 27).map (fun i=>(i.zero,i.size,i.bytes))=some (some .nilIface,1,16):=by kernel_rfl
theorem CH : ∀ (m B : Nat) (w0 : World) (x y : List PR) (w : World) (d : Nat) (v : Value), x.length ≤ m → B ≤ w.heap.size → Below w0.heap.size w0 w → eA w0 v (x ++ y) → trees 1 x = true → (∀ r ∈ x, ax r = true ∧ iO r) → cZ (x ++ y) = true → (x ++ y).length ≤ 1099511627776 →
    Calls prog 32 #[v] w (j8 B w0 w d x y)
  | 0, B, w0, x, y, w, d, v, hm, _, _, _, ht, _, _, _ => by
    obtain⟨r,x',rfl,_⟩:=sK ht
    simp at hm
  | m + 1, B, w0, x, y, w, d, v, hm, hB, Lj, ji, ht, Bx, hrg, hlen => by
    obtain⟨r,x',rfl,ht'⟩:=sK ht
    rw[iv]at ht'
    by_cases h40:r.kind=4
    · have s7 := Bx r (by simp)
      have ald : nk r = 1 := by
        have h1:=(jq s7.1).1
        rw[h40]at h1
        simp[de]at h1
        unfold nk;omega
      rw[ald]at ht'
      obtain⟨q,x2,rfl,htq⟩:=sK ht'
      have Z7 : q.kind = 3 := by
        rw[pJ,cZ,h40]at hrg
        simp[iy]at hrg
        exact hrg.1
      have oz:=Bx q (by simp)
      have WC : nk q = 0 := by
        have h1:=(jq oz.1).1
        rw[Z7]at h1
        simp[de]at h1
        unfold nk;omega
      rw[WC]at htq
      have ml:x2=[]:=Cq.1 htq
      subst ml
      exact KT hB Lj ji s7.1 h40 Z7 oz.1 oz.2 (by simp at hlen;omega)
    have H40:=aa h40
    clear h40
    obtain⟨ao,c,rfl,hle⟩:=ji.2
    have hrc:=ji
    obtain⟨_,_,hv,hc⟩:=(ji.below Lj).1
    injection hv with e1 e2 e3
    subst e1 e3
    obtain⟨g,o,rfl,_,hg,vm,vo,vi,vl,mj,aZ⟩:=hc 0 (by simp)
    simp only[pJ,IF,yG,iv]at mj aZ
    obtain⟨⟨am,cm,rfl,_⟩,⟨uf,co,rfl,_⟩,⟨ai,ci,rfl,_⟩,⟨al,cl,rfl,_⟩⟩:=id mj
    obtain⟨nm,S9⟩: ∃n,n=r.ms.length:=⟨_,rfl⟩
    obtain⟨no,tw⟩: ∃n,n=r.mls.length:=⟨_,rfl⟩
    obtain⟨ni,XQ⟩: ∃n,n=r.inc.length:=⟨_,rfl⟩
    obtain⟨nl,Lz⟩: ∃n,n=r.labels.length:=⟨_,rfl⟩
    rw[←S9,←tw,←XQ,←Lz]at mj aZ
    obtain⟨zP,hlr⟩:=Bx r (by simp)
    have Xw:=wF zP
    have IH:Hid (∀(B:Nat) (w0:World) (x y:List PR) (w:World) (d:Nat) (v:Value),x.length≤m→B≤w.heap.size→Below w0.heap.size w0 w→eA w0 v (x++y)→trees 1 x=true→(∀r∈x,ax r=true∧iO r)→cZ (x++y)=true→(x++y).length≤1099511627776→Calls prog 32 #[v] w (j8 B w0 w d x y)):=aa (CH m)
    have c0:w.cell? ⟨g,o,none⟩=some (.int .i64 r.kind):=aZ 0 (by omega)
    have c1:w.cell? ⟨g,o+1,none⟩=some (.int .i64 r.kids):=aZ 1 (by omega)
    have c2:w.cell? ⟨g,o+2,none⟩=some (.string r.op):=aZ 2 (by omega)
    have c3:w.cell? ⟨g,o+3,none⟩=some (.string r.text):=aZ 3 (by omega)
    have c4:w.cell? ⟨g,o+4,none⟩=some (.slice am nm cm):=aZ 4 (by omega)
    have c5:w.cell? ⟨g,o+5,none⟩=some (.string r.bQ):=aZ 5 (by omega)
    have c6:w.cell? ⟨g,o+6,none⟩=some (.string r.step):=aZ 6 (by omega)
    have c7:w.cell? ⟨g,o+7,none⟩=some (.string r.off):=aZ 7 (by omega)
    have c8:w.cell? ⟨g,o+8,none⟩=some (.string r.tim):=aZ 8 (by omega)
    have c9:w.cell? ⟨g,o+9,none⟩=some (.bool r.bool):=aZ 9 (by omega)
    have WY:w.cell? ⟨g,o+10,none⟩=some (.bool r.given):=aZ 10 (by omega)
    have WZ:w.cell? ⟨g,o+11,none⟩=some (.bool r.on):=aZ 11 (by omega)
    have c12:w.cell? ⟨g,o+12,none⟩=some (.slice uf no co):=aZ 12 (by omega)
    have S5:w.cell? ⟨g,o+13,none⟩=some (.int .i64 r.card):=aZ 13 (by omega)
    have Li:w.cell? ⟨g,o+14,none⟩=some (.slice ai ni ci):=aZ 14 (by omega)
    have S6:w.cell? ⟨g,o+15,none⟩=some (.bool r.without):=aZ 15 (by omega)
    have Iq:w.cell? ⟨g,o+16,none⟩=some (.slice al nl cl):=aZ 16 (by omega)
    have ζ:=aa mj
    have HRC:=aa hrc
    have ZY:=aa Bx
    have HKN:=aa Xw
    have HN4:=aa (And.intro S9 (And.intro tw (And.intro XQ Lz)))
    clear aZ hc ji hrc Bx Xw S9 tw XQ Lz
    obtain⟨L,hL⟩: ∃L,L=(x'++y).length:=⟨_,rfl⟩
    have hLn:(r::x'++y).length=L+1:=by rw[hL];simp
    rw[hLn]at hlen hle HRC ⊢
    have HL:=aa hL
    clear hL hLn
    go_enter func32,ntmps32
    go_upto_region 2 with(refine ay rfl 46 (.tmp 4) (.tmp 9) rfl w.heap.size _ rfl rfl (aH.new _ _ _) aN rfl rfl ?_)
    intro W' hz iu
    go_upto_region 2 with(fail)
    have aU:Below w.heap.size w W':=ic ((aS w.heap.size w).alloc (aP _) _) iu (by simp) (aP _)
    have HZ:=aa hz
    have bZ:=aa aU
    have HR1:=HRC
    clear hz iu aU c0 c1 c2 c3 c4 c5 c6 c7 c8 c9 WY WZ c12 S5 Li S6 Iq
    go_cut [0]from 10 to 11 (fun t0 wx=>wx=W'∧Hid (eA w0 t0 (x'++y)))
    case first =>
      by_cases lX:c=1
      · subst lX
        have HT : Hid (eA w0 (.slice (some ⟨g, o, none⟩) 0 0) (x' ++ y)) := aa (by
          have h0:x'++y=[]:=pH.1 (by rw[←HL.out];omega)
          rw[h0];exact eA.none_)
        obtain rfl:L=0:=by omega
        go_wp2_with fail
        go_meet
        exact⟨rfl,HT⟩
      · have HT : Hid (eA w0 (.slice (some ⟨g, o + 17, none⟩) L (c - 1)) (x' ++ y)) := aa (by
          have:=HR1.out.tail (l:=x'++y)
          rw[←HL.out]at this
          exact this)
        have q1:((c:Int)=1)=False:=bL (by omega)
        have q2:(c=1)=False:=bL lX
        go_wp2_with fail
        go_meet
        exact⟨rfl,HT⟩
    case rest =>
      obtain⟨rfl,XK⟩:=hcut
      obtain⟨a0,k0,FQ,_⟩:=XK.out.2
      subst FQ
      rw[←HL.out]at XK ⊢
      have z0:wc.cell? ⟨w.heap.size,0,none⟩=some (.int .i64 r.kind):=HZ.out.cell 0
      have z1:wc.cell? ⟨w.heap.size,1,none⟩=some (.int .i64 (nk r:Int)):=(HZ.out.cell 1).trans (by rw[←HKN.out];rfl)
      have atm : nk r ≤ 1099511627776 := by
        have h1:=BN x' (nk r) ht'
        have h2:=HL.out
        rw[fT]at h2
        omega
      have HTR:=aa ht'
      have HRG:=aa hrg
      have HLL:=aa mj
      have HM:=aa (show x'.length≤m by simp at hm;omega)
      clear ht ht' hrg mj hm
      by_cases h4:r.kind=4
      · exact absurd h4 H40.out
      · have q4 : (r.kind == 4) = false := by simpa using h4
        have H4:=aa h4
        clear h4
        go_wp2_with fail
        go_loopw [0,5,28] (fun t0 t5 t28 wx=> ∃i:Nat,t28= .int .i64 (i:Int)∧Hid (aac B w0 w d x' y (nk r) i (dN r (.slice am nm cm) (.slice uf no co) (.slice ai ni ci) (.slice al nl cl)) t0 t5 wx)) (fun _ _ t28 _=>nk r-(intOf t28).toNat)
        case atStart=>exact⟨0,rfl,aa ⟨aT _,HZ.out,⟨[],fun _=>[],[],x',rfl,rfl,HTR.out,rfl,ur _ _ _ _,(fun j h=>absurd h (by simp)),XK.out,(fun v h=>by cases h)⟩,bZ.out⟩⟩
        case round =>
          obtain⟨i,rfl,hI⟩:=hrel
          obtain⟨ks,cH,cc,rem,nU,Xc,Hw,Qe,aL,yP,ji,WX⟩:=hI.out.ks
          obtain⟨a6,c6,hv6,abN⟩:=ji.2
          subst hv6
          obtain⟨n6,hn6⟩: ∃n,n=(rem++y).length:=⟨_,rfl⟩
          rw[←hn6]at ji abN hI ⊢
          have HN6:=aa hn6
          clear hn6
          by_cases au:i<nk r
          · have p1 : ((i : Int) < (nk r : Int)) = True := az (by omega)
            obtain⟨a,Qf,XT,PJ,θ⟩:=ze rem 1 (nk r-i-1) (by rw[show 1+(nk r-i-1)=nk r-i by omega];exact Hw)
            have Qg: ∀q∈a,q∈x':=fun q hq=>by rw[Xc,XT];simp[hq]
            have XE : a.length ≤ m := by
              have h1:=HM.out
              rw[Xc,XT]at h1
              simp at h1;omega
            have Ij : (a ++ (Qf ++ y)).length ≤ 1099511627776 := by
              have h2:=HL.out
              rw[Xc,XT]at h2
              simp at h2 ⊢;omega
            have ag7 : cZ (a ++ (Qf ++ y)) = true := by
              refine sf (r::cc) _ ?_
              have h3:=HRG.out
              rw[Xc,XT]at h3
              simpa [lj]using h3
            have Un:eA w0 (.slice a6 n6 c6) (a++(Qf++y)):=by rw[←lj,←XT];exact ji
            have Bq:=aa (IH.out wr.heap.size w0 a (Qf++y) wr (d+1) _ XE (aP _) (Lj.trans (hI.out.below.mono Lj.size)) Un PJ (fun q hq=>ZY.out q (A6 _ (Qg q hq))) ag7 Ij)
            have hBw:B≤wr.heap.size:=bn hB hI.out.below.size
            have HK:=aa (And.intro nU (And.intro Xc (And.intro XT (And.intro θ (And.intro Qe (And.intro PJ WX))))))
            have agZ:=aa yP
            have F7:=aa aL
            have SD:i≤1099511627776:=by omega
            clear nU Xc Hw Qe aL yP ji WX XT PJ θ Qg XE Ij ag7 Un abN
            go_wp2_with fail
            (with_reducible refine Bq.out.mono ?_)
            rintro e W2 ⟨nv,sv,rfl,htn,PV,aM⟩
            obtain⟨tt,gg,rfl⟩:=htn.iface
            obtain⟨a7,c7,hv7,_⟩:=PV.2
            subst hv7
            obtain⟨n7,hn7⟩: ∃n,n=(Qf++y).length:=⟨_,rfl⟩
            rw[←hn7]at PV ⊢
            have HN7:=aa hn7
            clear hn7
            have TS:Hid (W2.ownsRow w.heap.size 27 1 u5 i ks):=aa (aD F7.out aM)
            have ox:ks.length=i:=HK.out.1
            have HTN:=aa htn
            have HRN:=aa PV
            have bD:=aa aM
            clear htn PV aM
            go_wp2_with ((at_builtin;refine ft rfl (.tmp 35) (.tmp 37) 101 rfl w.heap.size 27 .nilIface 1 16 V4 underlying101 rfl (by decide) _ _ _ rfl TS.out [.iface tt (.pointer (some ⟨gg,0,none⟩))] rfl rfl (zU rfl) (by unfold maxLen;omega) (by omega) (bn hI.out.below.size bD.out.size) ?_))
            intro v3 W3 vI AT htwo
            have Tk : Hid (aac B w0 w d x' y (nk r) (i + 1) (dN r (.slice am nm cm) (.slice uf no co) (.slice ai ni ci) (.slice al nl cl)) (.slice a7 n7 c7) v3 W3) := aa (by
              obtain⟨_,Xc,XT,θ,Qe,PJ,WX⟩:=HK.out
              refine⟨au,(hI.out.box.below bD.out hI.out.box.lt).grown AT (dL TS.out (hI.out.box.below bD.out hI.out.box.lt) (by decide)).symm,⟨ks++[.iface tt (.pointer (some ⟨gg,0,none⟩))],fun j=>if j=i then nC (d+1) a else cH j,cc++a,Qf,by simp[ox],by rw[Xc,XT,lj],by rw[show nk r-(i+1)=nk r-i-1 by omega];exact θ,?_,vI,?_,by rw[←HN7.out]at*;exact HRN.out,?_⟩,?_⟩
              · rw [V3, mZ, Cv PJ, Qe]
              · intro j hj
                show qN B (d+1) v3 W3 _ (if j=i then nC (d+1) a else cH j)
                by_cases hji:j=i
                · subst hji
                  rw[ar rfl,List.getElem_append_right (by omega)]
                  simp only[ox,EC,IF]
                  refine qN.push (t5:=u5) ⟨wr.heap.size,W2,HTN.out,hBw,iH.refl _ _,fun q hq=>.inl (F7.out.lt q hq).2⟩ AT htwo
                · have hj2 : j < ks.length := by simp at hj; omega
                  rw[af hji,List.getElem_append_left hj2]
                  exact((agZ.out j hj2).below bD.out).push AT htwo
              · intro q hq
                rcases tE.1 hq with hq|hq
                · exact WX q hq
                · rw [u9.1 hq]; exact ⟨_, _, rfl⟩
              · exact (hI.out.below.trans (bD.out.mono hI.out.below.size)).grown AT (bn hI.out.below.size bD.out.size) (fun q hq => (TS.out.lt q hq).1))
            obtain⟨a8,m8,c8,hv8⟩:=bA vI
            subst hv8
            clear vI AT htwo ox
            go_wp2_with fail
            exact⟨⟨i+1,by go_num,Tk⟩,by simp[intOf];omega⟩
          · have Ly : i = nk r := by have := hI.out.le; omega
            have p1:((i:Int)<(nk r:Int))=False:=bL (by omega)
            have abO:rem=[]:=Cq.1 (by rw[show nk r-i=0 by omega]at Hw;exact Hw)
            have hBw:B≤wr.heap.size:=bn hB hI.out.below.size
            have ag8:pU B wr u5 ks:=Zr (by rw[nU];exact bW aL hB)
            have HND:=aa (RB hBw (HLL.out.below hI.out.below) hlr zP H4.out ag8 (by rw[nU,Ly]) WX)
            have HBX:=aa hI.out.box
            have ale : Hid (∀ v W2, aY B W2 v r ks → Below wr.heap.size wr W2 → j8 B w0 w d (r :: x') y (.returned (.tuple #[v, .slice a6 n6 c6])) W2) := aa fun v W2 hn hb => by
              have hT:=dK.mk d v r ks cH hn fun j hj=>((yP j hj).tree).later hb
              have tl:((List.range ks.length).flatMap cH).map (·.2)=x':=by rw[nU,Qe,Xc,abO,mu]
              have hA:=hT.nC
              rw[mv,tl]at hA
              rw[hA]at hT
              exact⟨v,_,rfl,hT,by rw[abO]at ji;exact ji,hI.out.below.trans (hb.mono hI.out.below.size)⟩
            obtain⟨a8,m8,c8,hv8⟩:=bA aL
            subst hv8
            clear nU Xc Hw Qe aL yP ji WX ag8 abO Ly abN
            go_wp2_with (first|(refine dx rfl 46 (.tmp 4) rfl w.heap.size rfl HBX.out underlying46 aN ?_)|(go_at_call 61;refine HND.out.mono ?_;rintro e W2 ⟨v,rfl,hn,hb⟩;have HF:=aa (ale.out v W2 hn hb);obtain⟨tv,gv,SF⟩:=hn.iface;subst SF;clear hn hb))
            go_ret2
            exact HF.out
theorem acY (r:PR):E7 r=iY r.given r.on r.mls r.card r.inc:=rfl
theorem NF (hT:pT (fun _=>True) T):Um T:=by
 intro w r m o i l h hr kD;obtain⟨⟨am,cm,rfl,_⟩,⟨ao,co,rfl,_⟩,⟨ai,ci,rfl,_⟩,⟨al,cl,rfl,_⟩⟩:=id h;cases hk:de r.kind r.kids with
 |false=>
  have e:ax r=false:=by unfold ax;rw[hk];rfl
  rw[e];exact Nu w r _ _ _ _ _ _ _ _ _ _ _ _ h hr.len hk
 |true=>
  have h9:=qq hk;have hu:=CE h9;cases Sb:lP r with
  |false=>
   have e:ax r=false:=by unfold ax;rw[hk,Sb];rfl
   rw[e];exact Ho w r _ _ _ _ _ _ _ _ _ _ _ _ h hr.len hk fun e2=>by rw[hu.2 e2]at Sb;cases Sb
  |true=>
   have K9:=hu.1 Sb;exact Nv w r _ _ _ _ _ _ _ _ _ _ _ _ h hr.len hT kD hr hk Sb K9
def gZ (rs:List PR):List (Nat×PR):=if cx rs=0 then nC 1 rs else[]
theorem RE (w:World) (p:Addr) (u:Value):iH (p.block+1) w (w.setCell p u):=⟨by simp,fun k hk _=>vr w p u k (by omega)⟩
def iC (w:World) (rs:List PR) (e:Ending) (w':World):Prop:=
 ∃v,e= .returned (.tuple #[.agg #[v],.int .i64 (cx rs:Nat)])∧gY w.heap.size w' v (gZ rs)∧Below w.heap.size w w'
theorem iC.none_ (h:cx rs=n) (hn:n≠0) (hb:Below w.heap.size w w'):iC w rs (.returned (.tuple #[.agg #[.nilIface],.int .i64 (n:Nat)])) w':=
 ⟨.nilIface,by rw[h],.inl ⟨rfl,by unfold gZ;rw[h,af hn]⟩,hb⟩
theorem gY.lo {b b':Nat} {w:World} {v:Value} {L:List (Nat×PR)} (h:gY b w v L) (hb:b'≤b):gY b' w v L:=h.elim .inl fun h=>.inr (h.lo hb)
theorem CI (hT:pT (fun _=>True) T) {w:World} {v:Value} {rs:List PR} (h:eA w v rs) (hlen:rs.length≤1048576) (pG: ∀r∈rs,jU r) (kD:T w.heap.size w):
  Calls prog 9 #[v] w (iC w rs):=by
 have HS:Hid (∀W,Below w.heap.size w W→Calls prog 31 #[v] W (je W rs)):=aa fun W hb=>KV hT (NF hT) (h.1.below hb) hlen pG (hT.mono (hT.fN kD hb) hb.size)
 have HB:Hid (∀W,Below w.heap.size w W→w.heap.size+1≤W.heap.size→dz rs=true→Calls prog 32 #[v] W (j8 (w.heap.size+1) w W 1 rs [])):=aa fun W hb hl hs=>by
  obtain⟨h1,h2,h3⟩:=ir hs;exact CH rs.length _ w rs [] W 1 v (aP _) hl hb (by rw[mu];exact h) h1 (fun r hr=>⟨rl.1 h2 r hr,(pG r hr).len⟩) (by rw[mu];exact h3) (by rw[mu];omega)
 have Dp:Below w.heap.size w (w.alloc (.cells #[.nilIface] 29)):=(aS _ w).alloc (aP _) _;have PL:=aa Dp;have HZ0:=aa (aH.new w 29 #[.nilIface]);clear h pG kD Dp;go_enter func9,ntmps9;go_wp2_with fail;refine(HS.out _ PL.out).mono ?_;rintro e w1 ⟨d,ok,rfl,cC,hd,aU⟩;have bZ:=aa (PL.out.trans (aU.mono PL.out.size));have hz:=HZ0.out.below aU HZ0.out.lt;have re:=aa hz;have c0:=hz.cell 0;have f0:=hz.frozen 0;simp at c0;have s0:=hz.lt;clear hz aU;cases ok with
 |false=>
  have HP:Hid (∀W,Below w.heap.size w W→iC w rs (.returned (.tuple #[.agg #[.nilIface],.int .i64 (120:Nat)])) W):=aa fun W hb=>iC.none_ (by unfold cx;rw[←cC];rfl) (by decide) hb
  clear cC hd;go_wp2_with fail;refine cz (v:=.tuple #[.agg #[.nilIface],.int .i64 (120:Nat)]) ?_ rfl (HP.out _ ?_)
  ·simp[results,results9,go_sem,c0]
  ·exact bZ.out.setCell (p:=⟨w.heap.size,0,none⟩) (aP _) _
 |true=>
  have XS:=cC.symm;obtain rfl:=hd rfl;have ud:=ir XS;by_cases TT:128<iM rs
  ·have p1:((128:Int)<(iM rs:Int))=True:=az (by omega);have HP:Hid (∀W,Below w.heap.size w W→iC w rs (.returned (.tuple #[.agg #[.nilIface],.int .i64 (3:Nat)])) W):=aa fun W hb=>iC.none_ (CD XS TT) (by decide) hb
   clear cC hd XS ud TT;go_wp2_with fail;refine cz (v:=.tuple #[.agg #[.nilIface],.int .i64 (3:Nat)]) ?_ rfl (HP.out _ ?_)
   ·simp[results,results9,go_sem,c0]
   ·exact bZ.out.setCell (p:=⟨w.heap.size,0,none⟩) (aP _) _
  ·have p1:((128:Int)<(iM rs:Int))=False:=bL (by omega);have HSH:=aa XS;have he:cx rs=0:=mR.2 ⟨XS,by omega⟩;have HE:=aa he;clear cC hd XS ud TT he;go_wp2_with fail;refine(HB.out _ bZ.out re.out.lt HSH.out).mono ?_;rintro e w2 ⟨nv,sv,rfl,yP,_,aM⟩;obtain⟨tt,gg,rfl⟩:=yP.iface;have hz:=re.out.below aM re.out.lt;have c1:=hz.cell 0;have f1:=hz.frozen 0;simp at c1;have s1:=hz.lt;have bD:=aa (bZ.out.trans (aM.mono bZ.out.size));have HTR:=aa yP;clear hz aM yP;go_wp2_with fail;have HF:Hid (iC w rs (.returned (.tuple #[.agg #[.iface tt (.pointer (some ⟨gg,0,none⟩))],.int .i64 (0:Nat)])) (w2.setCell ⟨w.heap.size,0,none⟩ (.iface tt (.pointer (some ⟨gg,0,none⟩))))):=aa ⟨_,by rw[HE.out],.inr (by
    rw[gZ,ar HE.out];exact(HTR.out.agree (RE w2 ⟨w.heap.size,0,none⟩ (.iface tt (.pointer (some ⟨gg,0,none⟩))))).lo (Nat.le_succ _)),bD.out.setCell (p:=⟨w.heap.size,0,none⟩) (aP _) _⟩
   refine cz (v:=.tuple #[.agg #[.iface tt (.pointer (some ⟨gg,0,none⟩))],.int .i64 (0:Nat)]) ?_ rfl HF.out;simp[results,results9,go_sem,c1]
theorem yb (h:cx rs=0):gZ rs=nC 1 rs:=by unfold gZ;rw[ar h]
theorem NG (h:cx rs=0):qM (gZ rs)=iM rs:=by
 rw[yb h];unfold qM iM;rw[wU (ir (mR.1 h).1).1]
theorem FB (h:cx rs=0):(gZ rs).map (·.2)=rs:=by
 rw[yb h,Cv (ir (mR.1 h).1).1]
theorem wG (h:cx rs=0):(gZ rs).length=rs.length:=by
 have:=bT List.length (FB h)
 rwa [kG]at this
theorem r6 {n:Int} (h1:op.size≤1048576) (h2:text.size≤1048576):jU ⟨k,n,op,text,[],⟨#[]⟩,⟨#[]⟩,⟨#[]⟩,⟨#[]⟩,b1,b2,b3,[],card,[],b4,[]⟩:=by
 have h0:ByteArray.size ⟨#[]⟩≤1048576:=by decide
 exact⟨h1,h2,h0,h0,h0,h0,by simp,by simp,by simp,by simp,by simp,by simp,by simp,by simp⟩
theorem KW: ∀r∈xH,jU r:=by
 intro r hr;simp only[xH,gq,kE,iN]at hr;rcases hr with rfl|rfl|rfl
 ·exact r6 (by decide) (by decide)
 ·exact r6 (by decide) (by decide)
 ·exact r6 (by decide) (by decide)
def IA:Value:=.slice none 0 0
theorem uP (h1:r.ms=[]) (h2:r.mls=[]) (h3:r.inc=[]) (h4:r.labels=[]):bw b w r IA IA IA IA:=by
 unfold bw;rw[h1,h2,h3,h4];exact⟨xU b w,jk b w,jk b w,jk b w⟩
def qi (r:PR):RV:=⟨r,IA,IA,IA,IA⟩
def CJ (w:World) (e:Ending) (w':World):Prop:= ∃v,e= .returned v∧eA w' v xH∧Below w.heap.size w w'
theorem KX (w:World):Calls prog 28 #[] w (CJ w):=by
 have HF:Hid (∀cs:Array Value,cs=([qi Gj,qi Gk,qi Gl].flatMap rvC).toArray→CJ w (.returned (.slice (some ⟨w.heap.size,0,none⟩) 3 3)) (w.alloc (.cells cs 46))):=aa fun cs aZ=>by
  subst aZ;have ho:=yz (base:=w.heap.size) (e:=46) (size:=17) w ([qi Gj,qi Gk,qi Gl].flatMap rvC).toArray 3 (aP _) (by decide) (by rfl);refine⟨_,rfl,eA.jy (b:=w.heap.size) (e:=46) (xs:=[qi Gj,qi Gk,qi Gl]) (by simpa using ho) ?_,(aS _ w).alloc (aP _) _⟩;intro x hx;simp only[gq,kE,iN]at hx;rcases hx with rfl|rfl|rfl
  ·exact uP rfl rfl rfl rfl
  ·exact uP rfl rfl rfl rfl
  ·exact uP rfl rfl rfl rfl
 go_enter func28,ntmps28;go_wp2_with fail;go_ret;exact HF _ rfl
theorem V5 (hb:Below B w w1) (hB:B≤w1.heap.size) (v:Value):Below B w (w1.alloc (.cells #[v] 29))∧aH (w1.alloc (.cells #[v] 29)) w1.heap.size 29 #[v]∧Below w1.heap.size w1 (w1.alloc (.cells #[v] 29)):=
 ⟨hb.alloc hB _,aH.new _ _ _,(aS _ w1).alloc (aP _) _⟩
theorem gY.some_ (h:gY b w v (gZ rs)) (he:cx rs=0): ∃t g,v= .iface t (.pointer (some ⟨g,0,none⟩)):=by
 rcases h with⟨_,h⟩|h
 ·have:=wG he;rw[h]at this;obtain⟨r,t,rfl,_⟩:=sK (ir (mR.1 he).1).1;simp at this
 ·exact h.iface
theorem KY (hT:pT (fun _=>True) T) (w:World) (kD:T w.heap.size w):Calls prog 7 #[] w (aC w true):=by
 have HBU:=aa fun(W:World) v (hb:Below w.heap.size w W) (h:eA W v xH)=>CI hT h (by decide) KW (hT.mono (hT.fN kD hb) hb.size)
 clear kD;go_enter func7,ntmps7;go_wp2_with fail;refine(KX w).mono ?_;rintro e w1 ⟨v,rfl,hr,aU⟩;have HR:=aa hr;have bZ:=aa aU;clear hr aU;go_wp2_with fail;refine(HBU _ _ bZ HR).mono ?_;rintro e w2 ⟨vx,rfl,hx,aM⟩;obtain⟨t,g,rfl⟩:=hx.some_ jo;have yp:=bZ.trans (aM.mono bZ.size);obtain⟨k1,k2,k3⟩:=V5 yp yp.size (.iface t (.pointer (some ⟨g,0,none⟩)));have HX:=aa ((hx.lo (aT _)).below k3);obtain⟨W3,S7⟩: ∃W3,W3=w2.alloc (.cells #[.iface t (.pointer (some ⟨g,0,none⟩))] 29):=⟨_,rfl⟩;rw[←S7]at k1 k2 HX;rw[jo];have S4:=aa S7;have Z6:=aa k1;have Ob:=aa k2;have c0:=k2.cell 0;simp at c0;have l0:=k2.lt;have HD:Hid (∀W,Below W3.heap.size W3 W→Calls prog 14 #[.agg #[.iface t (.pointer (some ⟨g,0,none⟩))]] W (ko W 2)):=aa fun W h=>by
  have:=Nx (HX.below h) (by rw[wG jo];decide);rw[NG jo,Nn]at this;exact this
 have HN:Hid (∀W,Below W3.heap.size W3 W→Calls prog 15 #[.agg #[.iface t (.pointer (some ⟨g,0,none⟩))]] W (ko W 3)):=aa fun W h=>by
  have:=Ny (HX.below h) (by rw[wG jo];decide);rw[wG jo]at this;exact this
 clear hx aM yp k1 k2 k3 S7;go_upto_region 2 with(fail)
 rw[←S4.out];go_wp2_with (first|(go_at_call 14;(with_reducible refine(HD.out _ (aS _ _)).mono ?_);rintro e W4 ⟨rfl,fa⟩;have d0:W4.cell? ⟨w2.heap.size,0,none⟩=some (.iface t (.pointer (some ⟨g,0,none⟩))):=(fa.cell (p:=⟨w2.heap.size,0,none⟩) l0).trans (Ob.cell 0);have pB:=aa fa;clear fa)|(go_at_call 15;(with_reducible refine(HN.out _ pB.out).mono ?_);rintro e W5 ⟨rfl,mn⟩;have pC:=aa (Z6.trans ((pB.trans (mn.mono pB.size)).mono Z6.size));clear mn));go_ret;exact⟨rfl,pC⟩
theorem RG:(prog.info? 29).map (·.size)=some 1:=by kernel_rfl
theorem gY.one (h:gY b w v L):v.oneCell'=true:=by
 rcases h with⟨rfl,_⟩|h
 ·rfl
 ·obtain⟨t,g,rfl⟩:=h.iface;rfl
