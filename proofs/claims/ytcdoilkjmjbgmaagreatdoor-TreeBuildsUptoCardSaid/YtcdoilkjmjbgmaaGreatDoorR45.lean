import Derived.Test.YtcdoilkjmjbgmaaGreatDoorR42
import Derived.Test.YtcdoilkjmjbgmaaGreatDoorR44
/- Part of the proof of YtcdoilkjmjbgmaaGreatDoorCardR: TkL TsZ TgA. -/
set_option maxRecDepth 100000
set_option maxHeartbeats 4000000
set_option linter.unusedVariables false
set_option linter.unusedSimpArgs false
namespace Go.Proofs.YtcdoilkjmjbgmaaGreatDoor
open Go.RowKit
open Tryz
variable {W w wr W1 W2 w' w1:World} {g nm cm no co ni ci nl cl k n b B:Nat} {t:TypeId} {z0 z1 z2 z3 vv v' vm v:Value} {r:PR} {am ao ai al:Option Addr} {rs:List PR} {zs:List (qQ×Value)} {T:Nat→World→Prop} {card:Int} {op text:ByteArray} {b1 b2 b3 b4:Bool} {L:List (Nat×PR)}
theorem akb (h:aK W g t #[z0,z1,z2,z3]) (v0 v1 v2 v3:Value):
  aK ((((W.setCell ⟨g,0,none⟩ v0).setCell ⟨g,1,none⟩ v1).setCell ⟨g,2,none⟩ v2).setCell ⟨g,3,none⟩ v3) g t #[v0,v1,v2,v3]∧W.grownBy ((((W.setCell ⟨g,0,none⟩ v0).setCell ⟨g,1,none⟩ v1).setCell ⟨g,2,none⟩ v2).setCell ⟨g,3,none⟩ v3) (some g):=by
 refine⟨?_,aM (aM (aM (bF W g 0 v0) (bF _ g 1 v1)) (bF _ g 2 v2)) (bF _ g 3 v3)⟩;have:=(((h.bT 0 v0).bT 1 v1).bT 2 v2).bT 3 v3;simpa using this
def MA (w:World) (r:PR) (e:Ending) (w':World):Prop:= ∃am nm cm,e= .returned (.agg #[.string r.text,.slice am nm cm,.string r.off,.string r.tim])∧rn w.heap.size w' (.slice am nm cm) r.ms∧Below w.heap.size w w'
def zs4:Array Value:=#[.string ⟨#[]⟩,.slice none 0 0,.string ⟨#[]⟩,.string ⟨#[]⟩]
theorem RO:(prog.info? 60).map (·.size)=some 4:=by kernel_rfl
theorem H6 (h:eI 0 w (.slice am nm cm) r.ms) (hl:r.ms.length≤1099511627776):
  Calls prog 23 #[.agg #[.int .i64 r.kind,.int .i64 r.kids,.string r.op,.string r.text,.slice am nm cm,.string r.bV,.string r.step,.string r.off,.string r.tim,.bool r.bool,.bool r.given,.bool r.on,.slice ao no co,.int .i64 r.card,.slice ai ni ci,.bool r.without,.slice al nl cl]] w (MA w r):=by
 obtain⟨A,hA⟩: ∃A,A=dS r (.slice am nm cm) (.slice ao no co) (.slice ai ni ci) (.slice al nl cl):=⟨_,rfl⟩;obtain⟨W0,A1⟩: ∃W0,W0=(w.alloc (.cells A 46)).alloc (.cells zs4 60):=⟨_,rfl⟩;have vr:Below w.heap.size w W0:=by rw[A1];exact((aV _ w).alloc (aS _) _).alloc (by simp) _
 have lB:aK W0 w.heap.size 46 A:=by rw[A1];exact(aK.new _ _ _).alloc _
 have cK:aK W0 (w.heap.size+1) 60 zs4:=by
  rw[A1];have:=aK.new (w.alloc (.cells A 46)) 60 zs4;simpa using this
 have HA:=aa hA;have lu:=aa cK;have F9:=aa lB;have AB:=aa vr;have c3:W0.drew.cell? ⟨w.heap.size,3,none⟩=some (.string r.text):=(lB.cell 3).trans (by rw[hA];rfl);have c4:W0.drew.cell? ⟨w.heap.size,4,none⟩=some (.slice am nm cm):=(lB.cell 4).trans (by rw[hA];rfl);have c7:W0.drew.cell? ⟨w.heap.size,7,none⟩=some (.string r.off):=(lB.cell 7).trans (by rw[hA];rfl);have c8:W0.drew.cell? ⟨w.heap.size,8,none⟩=some (.string r.tim):=(lB.cell 8).trans (by rw[hA];rfl);have hze:=lB.alloc (.cells #[] 65);have e3:(W0.alloc (.cells #[] 65)).drew.cell? ⟨w.heap.size,3,none⟩=some (.string r.text):=(hze.cell 3).trans (by rw[hA];rfl);have e4:(W0.alloc (.cells #[] 65)).drew.cell? ⟨w.heap.size,4,none⟩=some (.slice am nm cm):=(hze.cell 4).trans (by rw[hA];rfl);have e7:(W0.alloc (.cells #[] 65)).drew.cell? ⟨w.heap.size,7,none⟩=some (.string r.off):=(hze.cell 7).trans (by rw[hA];rfl);have e8:(W0.alloc (.cells #[] 65)).drew.cell? ⟨w.heap.size,8,none⟩=some (.string r.tim):=(hze.cell 8).trans (by rw[hA];rfl);have l0:=lB.lt;have l1:=cK.lt;have IE:nm=r.ms.length:=by obtain⟨_,_,hv,_⟩:=h;injection hv
 have IA:nm≤1099511627776:=by omega
 have abg:Hid (vM 3 (W0.alloc (.cells #[] 65)).drew (.slice am nm cm) nm (r.ms.flatMap qR)):=aa (by
  have:=(h.src.below vr).below (((aV W0.heap.size W0).alloc (aS _) (.cells #[] 65)).drew);rw[←IE]at this;exact this)
 have xM:Hid ((W0.alloc (.cells #[] 65)).drew.ownsRow W0.heap.size 65 3 (.slice (some ⟨W0.heap.size,0,none⟩) 0 0) 0 []):=aa (bf (o6 W0 65 3) (aV _ _).drew);have HNM:=aa IE;rw[hA]at A1;simp only[dS,zs4]at A1;have HW0:=aa A1;clear h hl A1 vr lB cK IE hze hA;go_enter func23,ntmps23;go_wp2_with fail;rw[←HW0.out];go_region_held3 (fun W=>W.cell? ⟨w.heap.size,3,none⟩=some (.string r.text)∧W.cell? ⟨w.heap.size,4,none⟩=some (.slice am nm cm)∧W.cell? ⟨w.heap.size,7,none⟩=some (.string r.off)∧W.cell? ⟨w.heap.size,8,none⟩=some (.string r.tim)) (first|go_keep) (first|(refine o8 (by rfl) (.tmp 5) (.tmp 7) 39 (by rfl) W0.heap.size 65 _ 3 40 rV underlying39 rfl (by decide) _ 0 [] (by rfl) xM.out _ nm (r.ms.flatMap qR) (by rfl) abg.out (by unfold maxLen;omega) (by omega) (by simp) ?_;intro v3 W3 lv vA;obtain⟨a3,n3,k3,SN⟩:=cu lv;subst SN;have pg:=aa lv;have jU:aK W3 w.heap.size 46 A:=(F9.out.alloc _).drew.grown vA (by simp[Value.ownBlock];omega);have fz:aK W3 (w.heap.size+1) 60 zs4:=(lu.out.alloc _).drew.grown vA (by simp[Value.ownBlock];omega);have d3:W3.cell? ⟨w.heap.size,3,none⟩=some (.string r.text):=(jU.cell 3).trans (by rw[HA.out];rfl);have d4:W3.cell? ⟨w.heap.size,4,none⟩=some (.slice am nm cm):=(jU.cell 4).trans (by rw[HA.out];rfl);have d7:W3.cell? ⟨w.heap.size,7,none⟩=some (.string r.off):=(jU.cell 7).trans (by rw[HA.out];rfl);have d8:W3.cell? ⟨w.heap.size,8,none⟩=some (.string r.tim):=(jU.cell 8).trans (by rw[HA.out];rfl);have q0:W3.cell? ⟨w.heap.size+1,0,none⟩=some (.string ⟨#[]⟩):=fz.cell 0;have f0:=fz.frozen 0;have q1:W3.cell? ⟨w.heap.size+1,1,none⟩=some (.slice none 0 0):=fz.cell 1;have f1:=fz.frozen 1;have q2:W3.cell? ⟨w.heap.size+1,2,none⟩=some (.string ⟨#[]⟩):=fz.cell 2;have f2:=fz.frozen 2;have q3:W3.cell? ⟨w.heap.size+1,3,none⟩=some (.string ⟨#[]⟩):=fz.cell 3;have f3:=fz.frozen 3;have Lx:=aa fz;have HG3:=aa vA;clear lv vA jU fz));have hs:=akb Lx.out (.string r.text) (.slice a3 n3 k3) (.string r.off) (.string r.tim);have HS:=aa hs;have re:rn W0.heap.size W3 (.slice a3 n3 k3) r.ms:=by
  have:=pg.out;rw[kP,ry,HNM.out]at this;exact this
 have bW:Below w.heap.size w W3:=AB.out.trans (((((aV W0.heap.size W0).alloc (aS _) (.cells #[] 65)).drew).grown HG3.out (by simp) (fun k hk=>by simp[Value.ownBlock]at hk;omega)).mono AB.out.size);have HF:Hid (∀W,W3.grownBy W (some (w.heap.size+1))→MA w r (.returned (.agg #[.string r.text,.slice a3 n3 k3,.string r.off,.string r.tim])) W):=aa fun W hg=>
  ⟨a3,n3,k3,rfl,bY (oG re hg Lx.out (by decide)) AB.out.size,fF bW hg (by have:=bW.size;omega) (by omega)⟩
 clear hs re bW q0 q1 q2 q3 f0 f1 f2 f3;go_wp2_with fail;exact cB (aZ results23 rfl HS.out.1 underlying60 RO) rfl (HF.out _ HS.out.2)
def Af (w:World) (rs:List PR) (k:Nat) (vv:Value) (W:World):Prop:=
 ∃zs:List (qQ×Value),zs.map (·.1)=eR (rs.take k)∧W.ownsRow w.heap.size 60 4 vv zs.length (zs.flatMap pO)∧(∀z∈zs,rn w.heap.size W z.2 z.1.ms)∧Below w.heap.size w W
theorem Af.skip (h:Af w rs k vv W) (hk:k<rs.length) (h3:rs[k].kind≠3):Af w rs (k+1) vv W:=by
 obtain⟨zs,h1,h2⟩:=h;refine⟨zs,?_,h2⟩;rw[jy hk,nO,af h3,mz];exact h1
theorem Af.len {w W:World} {vv:Value} (h1:zs.map (·.1)=eR (rs.take k)):zs.length≤rs.length:=by
 have e:=cz List.length h1;rw[jW]at e;have:(eR (rs.take k)).length≤(rs.take k).length:=by
  unfold eR;rw[jW];exact List.length_filter_le _ _
 rw[nU]at this;omega
theorem Af.push (h1:zs.map (·.1)=eR (rs.take k)) (ho:wr.ownsRow w.heap.size 60 4 vv zs.length (zs.flatMap pO)) (hm: ∀z∈zs,rn w.heap.size wr z.2 z.1.ms) (hb:Below w.heap.size w wr)
  (hk:k<rs.length) (hr:r=rs[k]) (h3:r.kind=3) (aW:Below wr.heap.size wr W1) (hv:rn wr.heap.size W1 vm r.ms) (zT:W2.ownsRow w.heap.size 60 4 v' (zs.length+1) (zs.flatMap pO++[.string r.text,vm,.string r.off,.string r.tim])) (hg:W1.grownBy W2 vv.ownBlock):Af w rs (k+1) v' W2:=by
 subst hr;have vu:=bf ho aW;refine⟨zs++[(⟨rs[k].text,rs[k].ms,rs[k].off,rs[k].tim⟩,vm)],?_,?_,?_,(hb.trans (aW.mono hb.size)).grown hg (bP hb.size aW.size) (fun q hq=>(vu.lt q hq).1)⟩
 ·rw[mX,kO,rj,jy hk,nO,au h3,h1]
 ·rw[yI,iJ];simpa [pO]using zT
 ·intro z hz;rcases qx.1 hz with hz|hz
  ·exact(bf (hm z hz) aW).kept hg (je (bf (hm z hz) aW) vu (by decide))
  ·rw[xD.1 hz];exact bY (hv.kept hg (je hv vu (by decide))) hb.size
def GW (w:World) (rs:List PR) (e:Ending) (w':World):Prop:= ∃v,e= .returned v∧Bb w' v (eR rs)∧Below w.heap.size w w'
theorem Ek (h:lP 0 w v rs) (hn:rs.length≤4294967296) (hl: ∀r∈rs,gD r):
  Calls prog 21 #[v] w (GW w rs):=by
 obtain⟨ao,c,rfl,hc⟩:=h;have HC:=aa hc;have HL:=aa hl;clear hc hl;go_enter func21,ntmps21;go_wp2_with fail;go_loopw [3,4] (fun t3 t4 W=> ∃k:Nat,t4= .int .i64 (k:Int)∧Hid (k≤rs.length)∧Hid (Af w rs k t3 W)) (fun _ t4 _=>rs.length-(intOf t4).toNat)
 case atStart=>exact⟨0,rfl,aa (dQ _),aa ⟨[],rfl,rh _ _ _ _,fun z hz=>(by cases hz),aV _ _⟩⟩
 case round=>
  obtain⟨k,rfl,hk,hI⟩:=hrel;by_cases ax:k<rs.length
  ·have p1:((k:Int)<(rs.length:Int))=True:=aA (by omega);obtain⟨g,o,rfl,_,hg,vm,vo,vi,vl,lr,bh⟩:=HC.out k ax;have hlen:=HL.out rs[k] (jz ax);obtain⟨zs,h1,h2,h3,hb⟩:=hI.out;have hzl:=Af.len (w:=w) (W:=wr) (vv:=u3) h1;obtain⟨r,hr⟩: ∃r,r=rs[k]:=⟨_,rfl⟩;rw[←hr]at lr bh hlen;have vO: ∀j (hj:j<17),wr.cell? ⟨g,o+k*17+j,none⟩=some ((lO r vm vo vi vl)[j]'(by simp[lO];omega)):=fun j hj=>(hb.cell (p:=⟨g,_,none⟩) hg).trans (bh j hj)
   obtain⟨c0,c1,c2,c3,c4,c5,c6,c7,c8,c9,P4,P5,c12,P6,P7,Ox,Oy⟩:=wB vO;obtain⟨a3,n3,k3,rfl⟩:=cu h2;by_cases WJ:r.kind=3
   ·have q1:((r.kind==3)=true):=by rw[WJ];rfl
    have re:=lr.1.lo (dQ _);obtain⟨⟨am,cm,rfl,_⟩,⟨tu,co,rfl,_⟩,⟨ai,ci,rfl,_⟩,⟨al,cl,rfl,_⟩⟩:=lr;have abh:Hid (∀W,Below w.heap.size w W→Calls prog 23 #[.agg #[.int .i64 r.kind,.int .i64 r.kids,.string r.op,.string r.text,.slice am r.ms.length cm,.string r.bV,.string r.step,.string r.off,.string r.tim,.bool r.bool,.bool r.given,.bool r.on,.slice tu r.mls.length co,.int .i64 r.card,.slice ai r.inc.length ci,.bool r.without,.slice al r.labels.length cl]] W (MA W r)):=aa fun W h=>H6 (re.below h) hlen.1
    have HI:=aa (And.intro h1 (And.intro h2 (And.intro h3 hb)));have HR:=aa hr;have HK3:=aa WJ;have AE:Hid (w.heap.size≤wr.heap.size):=aa hb.size;clear h1 h2 h3 bh vO hr hlen re hI WJ;go_wp2_with (first|(go_at_call 23;(with_reducible refine(abh.out _ hb).mono ?_);rintro e W1 ⟨Oo,Ot,Ou,rfl,pa,aW⟩;have HM1:=aa pa;have cn:=aa aW;have qW:Hid (W1.ownsRow w.heap.size 60 4 (.slice a3 n3 k3) zs.length (zs.flatMap pO)):=aa (bf HI.out.2.1 aW);have Wp:Hid (w.heap.size≤W1.heap.size):=aa (bP AE.out aW.size);clear pa aW c0 c1 c2 c3 c4 c5 c6 c7 c8 c9 P4 P5 c12 P6 P7 Ox Oy)|(at_builtin;refine jM rfl (.tmp 17) (.tmp 23) 51 rfl w.heap.size 60 _ 4 72 Ke underlying51 rfl (by decide) _ zs.length (zs.flatMap pO) rfl qW.out [.string r.text,.slice Oo Ot Ou,.string r.off,.string r.tim] rfl rfl (afa _ _ _ _ _ _) (by unfold maxLen;omega) (by omega) Wp.out ?_));intro v4 W2 DH hg4 _;have HN:Hid (Af w rs (k+1) v4 W2):=aa (Af.push HI.out.1 HI.out.2.1 HI.out.2.2.1 HI.out.2.2.2 ax HR.out HK3.out cn.out HM1.out DH hg4);obtain⟨a4,n4,k4,rfl⟩:=cu DH;clear DH hg4;go_wp2_with fail;go_roundw
    case rel=>exact⟨k+1,by go_num,aa ax,HN⟩
    case measure=>simp[intOf];omega
   ·have q1:((r.kind==3)=false):=by rw[bN];exact WJ
    have HN:Hid (Af w rs (k+1) (.slice a3 n3 k3) wr):=aa (Af.skip ⟨zs,h1,h2,h3,hb⟩ ax (by rw[←hr];exact WJ));clear h1 h2 h3 lr bh vO hr hlen hI WJ hb;go_wp2_with fail;go_roundw
    case rel=>exact⟨k+1,by go_num,aa ax,HN⟩
    case measure=>simp[intOf];omega
  ·have p1:((k:Int)<(rs.length:Int))=False:=bU (by omega);have uv:k=rs.length:=by have:=hk.out;omega
   subst uv;obtain⟨zs,h1,h2,h3,hb⟩:=hI.out;obtain⟨a3,n3,k3,rfl⟩:=cu h2;have HP:Hid (GW w rs (.returned (.slice a3 n3 k3)) wr):=aa (by
    rw[qO]at h1;exact⟨_,rfl,by rw[←h1];exact Bb.gp h2 fun z hz=>(eI.gp (h3 z hz)).lo (dQ _),hb⟩)
   clear h1 h2 h3 hb hI;go_wp2_with fail;go_ret;exact HP.out
def fE (rs:List PR):List (Nat×PR):=if bA rs=0 then nt 1 rs else[]
theorem RP (w:World) (p:Addr) (u:Value):jj (p.block+1) w (w.setCell p u):=⟨by simp,fun k hk _=>yJ w p u k (by omega)⟩
def iB (w:World) (rs:List PR) (e:Ending) (w':World):Prop:=
 ∃v,e= .returned (.tuple #[.agg #[v],.int .i64 (bA rs:Nat)])∧eU w.heap.size w' v (fE rs)∧Below w.heap.size w w'
theorem iB.none_ (h:bA rs=n) (hn:n≠0) (hb:Below w.heap.size w w'):iB w rs (.returned (.tuple #[.agg #[.nilIface],.int .i64 (n:Nat)])) w':=
 ⟨.nilIface,by rw[h],.inl ⟨rfl,by unfold fE;rw[h,af hn]⟩,hb⟩
theorem eU.lo {b b':Nat} {w:World} {v:Value} {L:List (Nat×PR)} (h:eU b w v L) (hb:b'≤b):eU b' w v L:=h.elim .inl fun h=>.inr (h.lo hb)
theorem Da (hT:pK (fun _=>True) T) {w:World} {v:Value} {rs:List PR} (h:eC w v rs) (hlen:rs.length≤1048576) (po: ∀r∈rs,iZ r) (kL:T w.heap.size w):
  Calls prog 9 #[v] w (iB w rs):=by
 have HS:Hid (∀W,Below w.heap.size w W→Calls prog 31 #[v] W (jg W rs)):=aa fun W hb=>Lf hT (NO hT) (h.1.below hb) hlen po (hT.mono (hT.fY kL hb) hb.size)
 have HB:Hid (∀W,Below w.heap.size w W→w.heap.size+1≤W.heap.size→dC rs=true→Calls prog 32 #[v] W (kf (w.heap.size+1) w W 1 rs [])):=aa fun W hb hl hs=>by
  obtain⟨h1,h2,h3⟩:=jr hs;exact C9 rs.length _ w rs [] W 1 v (aS _) hl hb (by rw[mz];exact h) h1 (fun r hr=>⟨rq.1 h2 r hr,(po r hr).len⟩) (by rw[mz];exact h3) (by rw[mz];omega)
 have vr:Below w.heap.size w (w.alloc (.cells #[.nilIface] 29)):=(aV _ w).alloc (aS _) _;have AB:=aa vr;have F9:=aa (aK.new w 29 #[.nilIface]);clear h po kL vr;go_enter func9,ntmps9;go_wp2_with fail;refine(HS.out _ AB.out).mono ?_;rintro e w1 ⟨d,ok,rfl,cJ,hd,aW⟩;have cn:=aa (AB.out.trans (aW.mono AB.out.size));have hz:=F9.out.below aW F9.out.lt;have lu:=aa hz;have c0:=hz.cell 0;have f0:=hz.frozen 0;simp at c0;have s0:=hz.lt;clear hz aW;cases ok with
 |false=>
  have HP:Hid (∀W,Below w.heap.size w W→iB w rs (.returned (.tuple #[.agg #[.nilIface],.int .i64 (120:Nat)])) W):=aa fun W hb=>iB.none_ (by unfold bA;rw[←cJ];rfl) (by decide) hb
  clear cJ hd;go_wp2_with fail;refine cB (v:=.tuple #[.agg #[.nilIface],.int .i64 (120:Nat)]) ?_ rfl (HP.out _ ?_)
  ·simp[results,results9,go_sem,c0]
  ·exact cn.out.setCell (p:=⟨w.heap.size,0,none⟩) (aS _) _
 |true=>
  have XE:=cJ.symm;obtain rfl:=hd rfl;have uA:=jr XE;by_cases TN:128<ie rs
  ·have p1:((128:Int)<(ie rs:Int))=True:=aA (by omega);have HP:Hid (∀W,Below w.heap.size w W→iB w rs (.returned (.tuple #[.agg #[.nilIface],.int .i64 (3:Nat)])) W):=aa fun W hb=>iB.none_ (CV XE TN) (by decide) hb
   clear cJ hd XE uA TN;go_wp2_with fail;refine cB (v:=.tuple #[.agg #[.nilIface],.int .i64 (3:Nat)]) ?_ rfl (HP.out _ ?_)
   ·simp[results,results9,go_sem,c0]
   ·exact cn.out.setCell (p:=⟨w.heap.size,0,none⟩) (aS _) _
  ·have p1:((128:Int)<(ie rs:Int))=False:=bU (by omega);have HSH:=aa XE;have he:bA rs=0:=oQ.2 ⟨XE,by omega⟩;have HE:=aa he;clear cJ hd XE uA TN he;go_wp2_with fail;refine(HB.out _ cn.out lu.out.lt HSH.out).mono ?_;rintro e w2 ⟨nv,sv,rfl,zd,_,aN⟩;obtain⟨tt,gg,rfl⟩:=zd.iface;have hz:=lu.out.below aN lu.out.lt;have c1:=hz.cell 0;have f1:=hz.frozen 0;simp at c1;have s1:=hz.lt;have bC:=aa (cn.out.trans (aN.mono cn.out.size));have HTR:=aa zd;clear hz aN zd;go_wp2_with fail;have HF:Hid (iB w rs (.returned (.tuple #[.agg #[.iface tt (.pointer (some ⟨gg,0,none⟩))],.int .i64 (0:Nat)])) (w2.setCell ⟨w.heap.size,0,none⟩ (.iface tt (.pointer (some ⟨gg,0,none⟩))))):=aa ⟨_,by rw[HE.out],.inr (by
    rw[fE,au HE.out];exact(HTR.out.agree (RP w2 ⟨w.heap.size,0,none⟩ (.iface tt (.pointer (some ⟨gg,0,none⟩))))).lo (Nat.le_succ _)),bC.out.setCell (p:=⟨w.heap.size,0,none⟩) (aS _) _⟩
   refine cB (v:=.tuple #[.agg #[.iface tt (.pointer (some ⟨gg,0,none⟩))],.int .i64 (0:Nat)]) ?_ rfl HF.out;simp[results,results9,go_sem,c1]
theorem FK (h:bA rs=0):fE rs=nt 1 rs:=by unfold fE;rw[au h]
theorem Db (h:bA rs=0):oF (fE rs)=ie rs:=by
 rw[FK h];unfold oF ie;rw[G9 (jr (oQ.1 h).1).1]
theorem FL (h:bA rs=0):(fE rs).map (·.2)=rs:=by
 rw[FK h,CM (jr (oQ.1 h).1).1]
theorem wY (h:bA rs=0):(fE rs).length=rs.length:=by
 have:=cz List.length (FL h)
 rwa [jW]at this
theorem sr {k n:Int} (h1:op.size≤1048576) (h2:text.size≤1048576):iZ ⟨k,n,op,text,[],⟨#[]⟩,⟨#[]⟩,⟨#[]⟩,⟨#[]⟩,b1,b2,b3,[],card,[],b4,[]⟩:=by
 have h0:ByteArray.size ⟨#[]⟩≤1048576:=by decide
 exact⟨h1,h2,h0,h0,h0,h0,by simp,by simp,by simp,by simp,by simp,by simp,by simp,by simp⟩
theorem Lh: ∀r∈xV,iZ r:=by
 intro r hr;simp only[xV,gB,kM,iP]at hr;rcases hr with rfl|rfl|rfl
 ·exact sr (by decide) (by decide)
 ·exact sr (by decide) (by decide)
 ·exact sr (by decide) (by decide)
def IQ:Value:=.slice none 0 0
theorem vc (h1:r.ms=[]) (h2:r.mls=[]) (h3:r.inc=[]) (h4:r.labels=[]):bw b w r IQ IQ IQ IQ:=by
 unfold bw;rw[h1,h2,h3,h4];exact⟨yf b w,fW b w,fW b w,fW b w⟩
def pZ (r:PR):RV:=⟨r,IQ,IQ,IQ,IQ⟩
def Dc (w:World) (e:Ending) (w':World):Prop:= ∃v,e= .returned v∧eC w' v xV∧Below w.heap.size w w'
theorem Li (w:World):Calls prog 28 #[] w (Dc w):=by
 have HF:Hid (∀cs:Array Value,cs=([pZ Gv,pZ Gw,pZ Gx].flatMap rvC).toArray→Dc w (.returned (.slice (some ⟨w.heap.size,0,none⟩) 3 3)) (w.alloc (.cells cs 46))):=aa fun cs bh=>by
  subst bh;have ho:=yM (base:=w.heap.size) (e:=46) (size:=17) w ([pZ Gv,pZ Gw,pZ Gx].flatMap rvC).toArray 3 (aS _) (by decide) (by rfl);refine⟨_,rfl,eC.gp (b:=w.heap.size) (e:=46) (xs:=[pZ Gv,pZ Gw,pZ Gx]) (by simpa using ho) ?_,(aV _ w).alloc (aS _) _⟩;intro x hx;simp only[gB,kM,iP]at hx;rcases hx with rfl|rfl|rfl
  ·exact vc rfl rfl rfl rfl
  ·exact vc rfl rfl rfl rfl
  ·exact vc rfl rfl rfl rfl
 go_enter func28,ntmps28;go_wp2_with fail;go_ret;exact HF _ rfl
theorem VX (hb:Below B w w1) (hB:B≤w1.heap.size) (v:Value):Below B w (w1.alloc (.cells #[v] 29))∧aK (w1.alloc (.cells #[v] 29)) w1.heap.size 29 #[v]∧Below w1.heap.size w1 (w1.alloc (.cells #[v] 29)):=
 ⟨hb.alloc hB _,aK.new _ _ _,(aV _ w1).alloc (aS _) _⟩
theorem eU.some_ (h:eU b w v (fE rs)) (he:bA rs=0): ∃t g,v= .iface t (.pointer (some ⟨g,0,none⟩)):=by
 rcases h with⟨_,h⟩|h
 ·have:=wY he;rw[h]at this;obtain⟨r,t,rfl,_⟩:=sZ (jr (oQ.1 he).1).1;simp at this
 ·exact h.iface
theorem eU.akc (h:eU b w v (fE rs)) (he:bA rs≠0):v= .nilIface:=by
 rcases h with⟨h,_⟩|h
 ·exact h
 ·unfold fE at h;rw[af he]at h;cases h
theorem Lj (hT:pK (fun _=>True) T) (w:World) (kL:T w.heap.size w):Calls prog 7 #[] w (aG w true):=by
 have HBU:=aa fun(W:World) v (hb:Below w.heap.size w W) (h:eC W v xV)=>Da hT h (by decide) Lh (hT.mono (hT.fY kL hb) hb.size)
 clear kL;go_enter func7,ntmps7;go_wp2_with fail;refine(Li w).mono ?_;rintro e w1 ⟨v,rfl,hr,aW⟩;have HR:=aa hr;have cn:=aa aW;clear hr aW;go_wp2_with fail;refine(HBU _ _ cn HR).mono ?_;rintro e w2 ⟨vx,rfl,hx,aN⟩;obtain⟨t,g,rfl⟩:=hx.some_ js;have yB:=cn.trans (aN.mono cn.size);obtain⟨k1,k2,k3⟩:=VX yB yB.size (.iface t (.pointer (some ⟨g,0,none⟩)));have HX:=aa ((hx.lo (dQ _)).below k3);obtain⟨W3,SW⟩: ∃W3,W3=w2.alloc (.cells #[.iface t (.pointer (some ⟨g,0,none⟩))] 29):=⟨_,rfl⟩;rw[←SW]at k1 k2 HX;rw[js];have SU:=aa SW;have ZD:=aa k1;have Ol:=aa k2;have c0:=k2.cell 0;simp at c0;have l0:=k2.lt;have HD:Hid (∀W,Below W3.heap.size W3 W→Calls prog 14 #[.agg #[.iface t (.pointer (some ⟨g,0,none⟩))]] W (fN W 2)):=aa fun W h=>by
  have:=u6 (HX.below h) (by rw[wY js];decide);rw[Db js,NA]at this;exact this
 have HN:Hid (∀W,Below W3.heap.size W3 W→Calls prog 15 #[.agg #[.iface t (.pointer (some ⟨g,0,none⟩))]] W (fN W 3)):=aa fun W h=>by
  have:=u7 (HX.below h) (by rw[wY js];decide);rw[wY js]at this;exact this
 clear hx aN yB k1 k2 k3 SW;go_upto_region 2 with(fail)
 rw[←SU.out];go_wp2_with (first|(go_at_call 14;(with_reducible refine(HD.out _ (aV _ _)).mono ?_);rintro e W4 ⟨rfl,fg⟩;have d0:W4.cell? ⟨w2.heap.size,0,none⟩=some (.iface t (.pointer (some ⟨g,0,none⟩))):=(fg.cell (p:=⟨w2.heap.size,0,none⟩) l0).trans (Ol.cell 0);have pb:=aa fg;clear fg)|(go_at_call 15;(with_reducible refine(HN.out _ pb.out).mono ?_);rintro e W5 ⟨rfl,nc⟩;have pc:=aa (ZD.trans ((pb.trans (nc.mono pb.size)).mono ZD.size));clear nc));go_ret;exact⟨rfl,pc⟩
theorem VY (rs:List PR):(eR rs).length≤rs.length:=by
 unfold eR;rw[jW];exact List.length_filter_le _ _
theorem NT (h: ∀r∈rs,iZ r): ∀s∈eR rs,s.ms.length≤1099511627776:=by
 intro s hs;unfold eR at hs;obtain⟨r,hr,rfl⟩:=tS.1 hs;exact(h r (List.mem_filter.1 hr).1).len.1
theorem RQ:(prog.info? 29).map (·.size)=some 1:=by kernel_rfl
theorem eU.one (h:eU b w v L):v.oneCell'=true:=by
 rcases h with⟨rfl,_⟩|h
 ·rfl
 ·obtain⟨t,g,rfl⟩:=h.iface;rfl
