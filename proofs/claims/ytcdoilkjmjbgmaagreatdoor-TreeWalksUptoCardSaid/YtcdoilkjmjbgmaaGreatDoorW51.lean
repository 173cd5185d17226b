import Derived.Test.YtcdoilkjmjbgmaaGreatDoorW39
import Derived.Test.YtcdoilkjmjbgmaaGreatDoorW38
import Derived.BigRegionIn
import Derived.Test.YtcdoilkjmjbgmaaGreatDoorW37
import Derived.Test.YtcdoilkjmjbgmaaGreatDoorW34
/- Part of the proof of YtcdoilkjmjbgmaaGreatDoorCardX: TwA InB TwC TsA TwD TkJ TrZg TrZk TrZr TgR TkR TsD. -/
set_option maxRecDepth 100000
set_option maxHeartbeats 4000000
set_option linter.unusedVariables false
set_option linter.unusedSimpArgs false
namespace Go.Proofs.YtcdoilkjmjbgmaaGreatDoor
open Go.RowKit
open Go.Proofs.Tryz
variable {m m' B bx d b n p B0 size s g sz k c gs lo:Nat} {P:Program} {l x o i vv i' u t5 t6 v mo v3 v' kv SV:Value} {tmps:Array Value} {w W W1 W2 W' w0 w' A A' wr W3 W9 W10 wc WM:World} {R:Ending→World→Prop} {pre L:List (Nat×PR)} {r q:PR} {e:Ending} {ops:Array Oper} {rest:List Oper} {a:Act} {Q:Exit→Act→World→Prop} {xs ys ks:List Value} {t:TypeId} {ms:List PM} {zs:List (rk×Value)} {ss:List ByteArray} {rs y:List PR}
def eA (w:World) (v:Value) (rs:List PR):Prop:=oM 0 w v rs∧ ∃ao c,v= .slice ao rs.length c∧rs.length≤c
theorem eA.below {w w':World} {v:Value} {rs:List PR} (h:eA w v rs) (hb:Below w.heap.size w w'):eA w' v rs:=⟨h.1.below hb,h.2⟩
theorem eA.tail {o:Nat} {l:List PR} (h:eA w (.slice (some ⟨g,o,none⟩) n c) (r::l)):eA w (.slice (some ⟨g,o+17,none⟩) l.length (c-1)) l:=by
 obtain⟨⟨ao,c',hv,hc⟩,uf,c2,Ht,hle⟩:=h;injection Ht with e1 e2 e3
 subst e3;refine⟨⟨_,_,rfl,fun j hj=>?_⟩,_,_,rfl,by simp only[dI]at hle;omega⟩;obtain⟨g',o',he,hb,hg,vm,vo,vi,vl,h1,h2⟩:=hc (j+1) (by simp;omega);injection hv with e4 _ _
 rw[←e4]at he;cases he;refine⟨g,o+17,rfl,hb,hg,vm,vo,vi,vl,h1,fun k hk=>?_⟩;have:=h2 k hk;rw[show o+17+j*17+k=o+(j+1)*17+k by omega];exact this
theorem eA.none_ {a:Option Addr} :eA w (.slice a 0 c) []:=⟨⟨a,c,rfl,fun j h=>absurd h (by simp)⟩,a,c,rfl,aT _⟩
def j8 (B:Nat) (w0 w:World) (d:Nat) (x y:List PR) (e:Ending) (w':World):Prop:=
 ∃nv s,e= .returned (.tuple #[nv,s])∧dK B w' d nv (nC d x)∧eA w0 s y∧Below w.heap.size w w'
theorem sf: ∀(x y:List PR),cZ (x++y)=true→cZ y=true
 |[],_,h=>h
 |r::x,y,h=>by
  rw[pJ,cZ,kF]at h;exact sf x y h.2
theorem RC (h:ax r=true) (h4:r.kind=4):r={zr 4 1 with bQ:=r.bQ}:=by
 obtain⟨jJ,_,hu⟩:=jq h;obtain⟨kind,kids,op,text,ms,bQ,step,off,tim,bool,given,on,mls,card,inc,without,labels⟩:=r;simp only at*
 subst h4;simp[fZ,zr]at hu;simp[de]at jJ;simp[zr,hu,jJ]
theorem Zn (h:ax r=true) (h3:r.kind=3):r={zr 3 0 with text:=r.text,ms:=r.ms,off:=r.off,tim:=r.tim}:=by
 obtain⟨jJ,_,hu⟩:=jq h;obtain⟨kind,kids,op,text,ms,bQ,step,off,tim,bool,given,on,mls,card,inc,without,labels⟩:=r;simp only at*
 subst h3;simp[fZ,zr]at hu;simp[de]at jJ;simp[zr,hu,jJ]
theorem NA (hB:B≤w.heap.size) (zP:ax r=true) (h4:r.kind=4) (hqs:ax q=true) (Z7:q.kind=3) (Qc:eA w0 SV y) (aU:Below w.heap.size w wc)
  (sX:aY wc.drew.heap.size WM (.iface 84 (.pointer (some ⟨gs,0,none⟩))) {zr 3 0 with text:=q.text,ms:=q.ms,off:=q.off,tim:=q.tim} []) (hb:Below wc.drew.heap.size wc.drew WM):
  j8 B w0 w d [r,q] y (.returned (.tuple #[.iface 98 (.pointer (some ⟨WM.heap.size,0,none⟩)),SV])) (WM.alloc (.cells #[.pointer (some ⟨gs,0,none⟩),.string r.bQ] 100)):=by
 have Z2:=aU.size;have Ar:wc.heap.size≤WM.heap.size:=hb.size;have FP:Below WM.heap.size WM (WM.alloc (.cells #[.pointer (some ⟨gs,0,none⟩),.string r.bQ] 100)):=(aS _ _).alloc (aP _) _;have hz:=aH.new WM 100 #[.pointer (some ⟨gs,0,none⟩),.string r.bQ];rw[←Zn hqs Z7]at sX;have hk:=dK.mk (d+1) _ q [] (fun _=>[]) ((sX.below FP).lo (b':=B) (by show B≤wc.heap.size;omega)) (fun i h=>absurd h (by simp));have hn:=aY.range (b:=B) (w:=WM.alloc (.cells #[.pointer (some ⟨gs,0,none⟩),.string r.bQ] 100)) WM.heap.size (by omega) hz.lt r.bQ gs (hz.cell 0) (hz.cell 1);rw[←RC zP h4]at hn;have hT:=dK.mk d _ r _ (fun _=>[(d+1,q)]) hn (fun i h=>by
  have h0:i=0:=by simpa using h
  subst h0;exact hk)
 have hA:=hT.nC;have e:(((d,r)::(List.range [Value.iface 84 (.pointer (some ⟨gs,0,none⟩))].length).flatMap fun _=>[(d+1,q)]).map (·.2):List PR)=[r,q]:=rfl;rw[e]at hA;rw[hA]at hT;exact⟨_,SV,rfl,hT,Qc,(aU.drew.trans (hb.mono Z2)).trans (FP.mono (by omega))⟩
theorem NB (a:Addr) (n k:Nat) (h:n+1≤k) (W:World):(Instr.slice 22 (.slice (some a) (n+1) k) (some (.int .i64 1)) none none).run prog W= .ok (.slice (if k=1 then some a else some (a.add 17)) n (k-1)) W:=by
 have h1:(1:Int)≤(n:Int)+1:=by omega
 have h2:(n:Int)+1≤(k:Int):=by omega
 have hu:=underlying22;have hs: ∀W,(sizeOf 46).run prog W= .ok 17 W:=fun W=>by kernel_rfl
 unfold Instr.slice;simp[go_sem,run_underlying hu,h,h1,h2,hs]
theorem KT (hB:B≤w.heap.size) (Lj:Below w0.heap.size w0 w) (ji:eA w0 v (r::q::y)) (zP:ax r=true) (h4:r.kind=4) (Z7:q.kind=3) (hqs:ax q=true) (hql:iO q) (hlen:y.length≤1099511627776):
  Calls prog 32 #[v] w (j8 B w0 w d [r,q] y):=by
 obtain⟨ao,c,rfl,hle⟩:=ji.2;have hrc:=ji;obtain⟨_,_,hv,hc⟩:=(ji.below Lj).1;injection hv with e1 e2 e3
 subst e1 e3;obtain⟨g,o,rfl,_,hg,vm,vo,vi,vl,mj,aZ⟩:=hc 0 (by simp);obtain⟨g',o',he,_,_,um,uo,ui,ul,hlq,s6⟩:=hc 1 (by simp);cases he;simp only[IF,List.getElem_cons_succ,yG,iv,Bi]at mj aZ hlq s6;obtain⟨⟨Sr,Su,rfl,_⟩,⟨PO,PS,rfl,_⟩,⟨Oe,Og,rfl,_⟩,⟨LA,LC,rfl,_⟩⟩:=id mj;obtain⟨⟨Im,Ip,rfl,_⟩,⟨uf,Hz,rfl,_⟩,⟨FR,FU,rfl,_⟩,⟨Ei,Ek,rfl,_⟩⟩:=id hlq;obtain⟨Ss,ag0⟩: ∃n,n=r.ms.length:=⟨_,rfl⟩;obtain⟨PQ,ag1⟩: ∃n,n=r.mls.length:=⟨_,rfl⟩;obtain⟨Of,ag2⟩: ∃n,n=r.inc.length:=⟨_,rfl⟩;obtain⟨LB,ag3⟩: ∃n,n=r.labels.length:=⟨_,rfl⟩;obtain⟨Io,ag4⟩: ∃n,n=q.ms.length:=⟨_,rfl⟩;obtain⟨Hy,Tm⟩: ∃n,n=q.mls.length:=⟨_,rfl⟩;obtain⟨FT,ag5⟩: ∃n,n=q.inc.length:=⟨_,rfl⟩;obtain⟨Ej,ag6⟩: ∃n,n=q.labels.length:=⟨_,rfl⟩;rw[←ag0,←ag1,←ag2,←ag3]at mj aZ;rw[←ag4,←Tm,←ag5,←ag6]at hlq s6;have Ef:Hid (eA w0 (.slice (some ⟨g,o+17,none⟩) (q::y).length (c-1)) (q::y)):=aa hrc.tail;simp only[dI]at hle;obtain⟨n,hn⟩: ∃n,n=y.length:=⟨_,rfl⟩;have hLn:(r::q::y).length=n+1+1:=by rw[hn];simp
 rw[hLn];rw[←hn]at hle hlen;obtain⟨k,rfl⟩: ∃k,c=k+1:=⟨c-1,by omega⟩;have Xw:nk r=1:=by
  have h1:=(jq zP).1;rw[h4]at h1;simp[de]at h1;unfold nk;omega
 have XH:Hid (∀W,Below w.heap.size w W→Calls prog 44 #[.agg #[.int .i64 q.kind,.int .i64 q.kids,.string q.op,.string q.text,.slice Im Io Ip,.string q.bQ,.string q.step,.string q.off,.string q.tim,.bool q.bool,.bool q.given,.bool q.on,.slice uf Hy Hz,.int .i64 q.card,.slice FR FT FU,.bool q.without,.slice Ei Ej Ek]] W (AE W q)):=aa fun W hb=>tQ (r:=q) (hlq.1.below hb) hql.1
 have c0:w.cell? ⟨g,o,none⟩=some (.int .i64 r.kind):=aZ 0 (by omega);have c1:w.cell? ⟨g,o+1,none⟩=some (.int .i64 r.kids):=aZ 1 (by omega);have c2:w.cell? ⟨g,o+2,none⟩=some (.string r.op):=aZ 2 (by omega);have c3:w.cell? ⟨g,o+3,none⟩=some (.string r.text):=aZ 3 (by omega);have c4:w.cell? ⟨g,o+4,none⟩=some (.slice Sr Ss Su):=aZ 4 (by omega);have c5:w.cell? ⟨g,o+5,none⟩=some (.string r.bQ):=aZ 5 (by omega);have c6:w.cell? ⟨g,o+6,none⟩=some (.string r.step):=aZ 6 (by omega);have c7:w.cell? ⟨g,o+7,none⟩=some (.string r.off):=aZ 7 (by omega);have c8:w.cell? ⟨g,o+8,none⟩=some (.string r.tim):=aZ 8 (by omega);have c9:w.cell? ⟨g,o+9,none⟩=some (.bool r.bool):=aZ 9 (by omega);have WY:w.cell? ⟨g,o+10,none⟩=some (.bool r.given):=aZ 10 (by omega);have WZ:w.cell? ⟨g,o+11,none⟩=some (.bool r.on):=aZ 11 (by omega);have c12:w.cell? ⟨g,o+12,none⟩=some (.slice PO PQ PS):=aZ 12 (by omega);have S5:w.cell? ⟨g,o+13,none⟩=some (.int .i64 r.card):=aZ 13 (by omega);have Li:w.cell? ⟨g,o+14,none⟩=some (.slice Oe Of Og):=aZ 14 (by omega);have S6:w.cell? ⟨g,o+15,none⟩=some (.bool r.without):=aZ 15 (by omega);have Iq:w.cell? ⟨g,o+16,none⟩=some (.slice LA LB LC):=aZ 16 (by omega);have M0:Hid (w.cell? ⟨g,o+17,none⟩=some (.int .i64 q.kind)):=aa (s6 0 (by omega));have M1:Hid (w.cell? ⟨g,o+17+1,none⟩=some (.int .i64 q.kids)):=aa (s6 1 (by omega));have M2:Hid (w.cell? ⟨g,o+17+2,none⟩=some (.string q.op)):=aa (s6 2 (by omega));have M3:Hid (w.cell? ⟨g,o+17+3,none⟩=some (.string q.text)):=aa (s6 3 (by omega));have M4:Hid (w.cell? ⟨g,o+17+4,none⟩=some (.slice Im Io Ip)):=aa (s6 4 (by omega));have M5:Hid (w.cell? ⟨g,o+17+5,none⟩=some (.string q.bQ)):=aa (s6 5 (by omega));have M6:Hid (w.cell? ⟨g,o+17+6,none⟩=some (.string q.step)):=aa (s6 6 (by omega));have M7:Hid (w.cell? ⟨g,o+17+7,none⟩=some (.string q.off)):=aa (s6 7 (by omega));have M8:Hid (w.cell? ⟨g,o+17+8,none⟩=some (.string q.tim)):=aa (s6 8 (by omega));have M9:Hid (w.cell? ⟨g,o+17+9,none⟩=some (.bool q.bool)):=aa (s6 9 (by omega));have M10:Hid (w.cell? ⟨g,o+17+10,none⟩=some (.bool q.given)):=aa (s6 10 (by omega));have M11:Hid (w.cell? ⟨g,o+17+11,none⟩=some (.bool q.on)):=aa (s6 11 (by omega));have M12:Hid (w.cell? ⟨g,o+17+12,none⟩=some (.slice uf Hy Hz)):=aa (s6 12 (by omega));have M13:Hid (w.cell? ⟨g,o+17+13,none⟩=some (.int .i64 q.card)):=aa (s6 13 (by omega));have M14:Hid (w.cell? ⟨g,o+17+14,none⟩=some (.slice FR FT FU)):=aa (s6 14 (by omega));have M15:Hid (w.cell? ⟨g,o+17+15,none⟩=some (.bool q.without)):=aa (s6 15 (by omega));have M16:Hid (w.cell? ⟨g,o+17+16,none⟩=some (.slice Ei Ej Ek)):=aa (s6 16 (by omega));have HN:=aa hn;have HKN:=aa Xw;have HH:=aa (And.intro zP (And.intro hqs (And.intro Z7 (And.intro Lj (And.intro hB mj)))));have p4:(r.kind==4)=true:=by simp[h4]
 have H4:=aa h4;have q0:((k:Int)+1=1)=False:=bL (by omega);have q00:(k+1=1)=False:=bL (by omega);have atl:(k=0)=False:=bL (by omega);clear aZ hc ji hrc zP Xw ag0 ag1 ag2 ag3 ag4 Tm ag5 ag6 hlq s6 mj h4 Z7 hqs hql hLn hn hB Lj;go_enter func32,ntmps32;go_upto_region 2 with(refine ay rfl 46 (.tmp 4) (.tmp 9) rfl w.heap.size _ rfl rfl (aH.new _ _ _) aN rfl rfl ?_)
 intro W' hz iu;go_upto_region 2 with(fail)
 have aU:Below w.heap.size w W':=ic ((aS w.heap.size w).alloc (aP _) _) iu (by simp) (aP _);have HZ:=aa hz;have bZ:=aa aU;clear hz iu aU c0 c1 c2 c3 c4 c5 c6 c7 c8 c9 WY WZ c12 S5 Li S6 Iq;go_cut [0]from 10 to 11 (fun t0 wx=> ∃oq,t0= .slice (some ⟨g,oq,none⟩) (n+1) k∧wx=W'∧Hid (oq=o+17))
 case first=>
  go_wp2_with fail;go_meet;exact⟨_,rfl,rfl,aa rfl⟩
 case rest=>
  obtain⟨oq,rfl,rfl,H5⟩:=hcut;have z0:wc.cell? ⟨w.heap.size,0,none⟩=some (.int .i64 r.kind):=HZ.out.cell 0;have s1:=HZ.out.lt;have xh:g<wc.heap.size:=gO hg bZ.out.size;have z5:wc.cell? ⟨w.heap.size,5,none⟩=some (.string r.bQ):=HZ.out.cell 5;have d5:wc.drew.cell? ⟨w.heap.size,5,none⟩=some (.string r.bQ):=z5;have Z5:=aa z5;have n0:wc.cell? ⟨g,oq,none⟩=some (.int .i64 q.kind):=by rw[H5.out];exact(bZ.out.cell (p:=⟨g,_,none⟩) hg).trans M0.out
  have m0:wc.drew.cell? ⟨g,oq,none⟩=some (.int .i64 q.kind):=n0;have N0:=aa n0;have n1:wc.cell? ⟨g,oq+1,none⟩=some (.int .i64 q.kids):=by rw[H5.out];exact(bZ.out.cell (p:=⟨g,_,none⟩) hg).trans M1.out
  have m1:wc.drew.cell? ⟨g,oq+1,none⟩=some (.int .i64 q.kids):=n1;have N1:=aa n1;have n2:wc.cell? ⟨g,oq+2,none⟩=some (.string q.op):=by rw[H5.out];exact(bZ.out.cell (p:=⟨g,_,none⟩) hg).trans M2.out
  have m2:wc.drew.cell? ⟨g,oq+2,none⟩=some (.string q.op):=n2;have N2:=aa n2;have n3:wc.cell? ⟨g,oq+3,none⟩=some (.string q.text):=by rw[H5.out];exact(bZ.out.cell (p:=⟨g,_,none⟩) hg).trans M3.out
  have m3:wc.drew.cell? ⟨g,oq+3,none⟩=some (.string q.text):=n3;have N3:=aa n3;have n4:wc.cell? ⟨g,oq+4,none⟩=some (.slice Im Io Ip):=by rw[H5.out];exact(bZ.out.cell (p:=⟨g,_,none⟩) hg).trans M4.out
  have m4:wc.drew.cell? ⟨g,oq+4,none⟩=some (.slice Im Io Ip):=n4;have N4:=aa n4;have n5:wc.cell? ⟨g,oq+5,none⟩=some (.string q.bQ):=by rw[H5.out];exact(bZ.out.cell (p:=⟨g,_,none⟩) hg).trans M5.out
  have m5:wc.drew.cell? ⟨g,oq+5,none⟩=some (.string q.bQ):=n5;have N5:=aa n5;have n6:wc.cell? ⟨g,oq+6,none⟩=some (.string q.step):=by rw[H5.out];exact(bZ.out.cell (p:=⟨g,_,none⟩) hg).trans M6.out
  have m6:wc.drew.cell? ⟨g,oq+6,none⟩=some (.string q.step):=n6;have N6:=aa n6;have n7:wc.cell? ⟨g,oq+7,none⟩=some (.string q.off):=by rw[H5.out];exact(bZ.out.cell (p:=⟨g,_,none⟩) hg).trans M7.out
  have m7:wc.drew.cell? ⟨g,oq+7,none⟩=some (.string q.off):=n7;have N7:=aa n7;have n8:wc.cell? ⟨g,oq+8,none⟩=some (.string q.tim):=by rw[H5.out];exact(bZ.out.cell (p:=⟨g,_,none⟩) hg).trans M8.out
  have m8:wc.drew.cell? ⟨g,oq+8,none⟩=some (.string q.tim):=n8;have N8:=aa n8;have n9:wc.cell? ⟨g,oq+9,none⟩=some (.bool q.bool):=by rw[H5.out];exact(bZ.out.cell (p:=⟨g,_,none⟩) hg).trans M9.out
  have m9:wc.drew.cell? ⟨g,oq+9,none⟩=some (.bool q.bool):=n9;have N9:=aa n9;have n10:wc.cell? ⟨g,oq+10,none⟩=some (.bool q.given):=by rw[H5.out];exact(bZ.out.cell (p:=⟨g,_,none⟩) hg).trans M10.out
  have m10:wc.drew.cell? ⟨g,oq+10,none⟩=some (.bool q.given):=n10;have N10:=aa n10;have n11:wc.cell? ⟨g,oq+11,none⟩=some (.bool q.on):=by rw[H5.out];exact(bZ.out.cell (p:=⟨g,_,none⟩) hg).trans M11.out
  have m11:wc.drew.cell? ⟨g,oq+11,none⟩=some (.bool q.on):=n11;have N11:=aa n11;have n12:wc.cell? ⟨g,oq+12,none⟩=some (.slice uf Hy Hz):=by rw[H5.out];exact(bZ.out.cell (p:=⟨g,_,none⟩) hg).trans M12.out
  have m12:wc.drew.cell? ⟨g,oq+12,none⟩=some (.slice uf Hy Hz):=n12;have N12:=aa n12;have n13:wc.cell? ⟨g,oq+13,none⟩=some (.int .i64 q.card):=by rw[H5.out];exact(bZ.out.cell (p:=⟨g,_,none⟩) hg).trans M13.out
  have m13:wc.drew.cell? ⟨g,oq+13,none⟩=some (.int .i64 q.card):=n13;have N13:=aa n13;have n14:wc.cell? ⟨g,oq+14,none⟩=some (.slice FR FT FU):=by rw[H5.out];exact(bZ.out.cell (p:=⟨g,_,none⟩) hg).trans M14.out
  have m14:wc.drew.cell? ⟨g,oq+14,none⟩=some (.slice FR FT FU):=n14;have N14:=aa n14;have n15:wc.cell? ⟨g,oq+15,none⟩=some (.bool q.without):=by rw[H5.out];exact(bZ.out.cell (p:=⟨g,_,none⟩) hg).trans M15.out
  have m15:wc.drew.cell? ⟨g,oq+15,none⟩=some (.bool q.without):=n15;have N15:=aa n15;have n16:wc.cell? ⟨g,oq+16,none⟩=some (.slice Ei Ej Ek):=by rw[H5.out];exact(bZ.out.cell (p:=⟨g,_,none⟩) hg).trans M16.out
  have m16:wc.drew.cell? ⟨g,oq+16,none⟩=some (.slice Ei Ej Ek):=n16;have N16:=aa n16;go_upto_region 4 with(fail)
  obtain⟨SV,hSV⟩: ∃SV,SV=Value.slice (if k=1 then some ⟨g,oq,none⟩else some ((⟨g,oq,none⟩:Addr).add 17)) n (k-1):=⟨_,rfl⟩;have sl: ∀W,(Instr.slice 22 (.slice (some ⟨g,oq,none⟩) (n+1) k) (some (.int .i64 1)) none none).run prog W= .ok SV W:=fun W=>by rw[hSV];exact NB _ n k (by omega) W
  have HSV:Hid (eA w0 SV y):=aa (by
   rw[hSV];by_cases e:k=1
   ·have h0:y=[]:=pH.1 (by rw[←HN.out];omega);subst h0;have:n=0:=by omega
    subst this;exact eA.none_
   ·rw[af e,HN.out,H5.out];have h1:=Ef.out;rw[Nat.add_sub_cancel]at h1;exact h1.tail)
  clear hSV;go_region_held3 (fun W=>W.cell? ⟨g,oq,none⟩=some (.int .i64 q.kind)∧W.cell? ⟨g,oq+1,none⟩=some (.int .i64 q.kids)∧W.cell? ⟨g,oq+2,none⟩=some (.string q.op)∧W.cell? ⟨g,oq+3,none⟩=some (.string q.text)∧W.cell? ⟨g,oq+4,none⟩=some (.slice Im Io Ip)∧W.cell? ⟨g,oq+5,none⟩=some (.string q.bQ)∧W.cell? ⟨g,oq+6,none⟩=some (.string q.step)∧W.cell? ⟨g,oq+7,none⟩=some (.string q.off)∧W.cell? ⟨g,oq+8,none⟩=some (.string q.tim)∧W.cell? ⟨g,oq+9,none⟩=some (.bool q.bool)∧W.cell? ⟨g,oq+10,none⟩=some (.bool q.given)∧W.cell? ⟨g,oq+11,none⟩=some (.bool q.on)∧W.cell? ⟨g,oq+12,none⟩=some (.slice uf Hy Hz)∧W.cell? ⟨g,oq+13,none⟩=some (.int .i64 q.card)∧W.cell? ⟨g,oq+14,none⟩=some (.slice FR FT FU)∧W.cell? ⟨g,oq+15,none⟩=some (.bool q.without)∧W.cell? ⟨g,oq+16,none⟩=some (.slice Ei Ej Ek)∧W.cell? ⟨w.heap.size,5,none⟩=some (.string r.bQ)) (first|go_keep) (first|(go_at_call 44;(with_reducible refine(XH.out _ bZ.out.drew).mono ?_);rintro e WM ⟨gs,rfl,sX,hb⟩;have p0:WM.cell? ⟨g,oq,none⟩=some (.int .i64 q.kind):=(hb.cell (p:=⟨g,_,none⟩) xh).trans N0.out;have p1:WM.cell? ⟨g,oq+1,none⟩=some (.int .i64 q.kids):=(hb.cell (p:=⟨g,_,none⟩) xh).trans N1.out;have p2:WM.cell? ⟨g,oq+2,none⟩=some (.string q.op):=(hb.cell (p:=⟨g,_,none⟩) xh).trans N2.out;have p3:WM.cell? ⟨g,oq+3,none⟩=some (.string q.text):=(hb.cell (p:=⟨g,_,none⟩) xh).trans N3.out;have p4:WM.cell? ⟨g,oq+4,none⟩=some (.slice Im Io Ip):=(hb.cell (p:=⟨g,_,none⟩) xh).trans N4.out;have p5:WM.cell? ⟨g,oq+5,none⟩=some (.string q.bQ):=(hb.cell (p:=⟨g,_,none⟩) xh).trans N5.out;have p6:WM.cell? ⟨g,oq+6,none⟩=some (.string q.step):=(hb.cell (p:=⟨g,_,none⟩) xh).trans N6.out;have p7:WM.cell? ⟨g,oq+7,none⟩=some (.string q.off):=(hb.cell (p:=⟨g,_,none⟩) xh).trans N7.out;have p8:WM.cell? ⟨g,oq+8,none⟩=some (.string q.tim):=(hb.cell (p:=⟨g,_,none⟩) xh).trans N8.out;have p9:WM.cell? ⟨g,oq+9,none⟩=some (.bool q.bool):=(hb.cell (p:=⟨g,_,none⟩) xh).trans N9.out;have p10:WM.cell? ⟨g,oq+10,none⟩=some (.bool q.given):=(hb.cell (p:=⟨g,_,none⟩) xh).trans N10.out;have p11:WM.cell? ⟨g,oq+11,none⟩=some (.bool q.on):=(hb.cell (p:=⟨g,_,none⟩) xh).trans N11.out;have p12:WM.cell? ⟨g,oq+12,none⟩=some (.slice uf Hy Hz):=(hb.cell (p:=⟨g,_,none⟩) xh).trans N12.out;have p13:WM.cell? ⟨g,oq+13,none⟩=some (.int .i64 q.card):=(hb.cell (p:=⟨g,_,none⟩) xh).trans N13.out;have p14:WM.cell? ⟨g,oq+14,none⟩=some (.slice FR FT FU):=(hb.cell (p:=⟨g,_,none⟩) xh).trans N14.out;have p15:WM.cell? ⟨g,oq+15,none⟩=some (.bool q.without):=(hb.cell (p:=⟨g,_,none⟩) xh).trans N15.out;have p16:WM.cell? ⟨g,oq+16,none⟩=some (.slice Ei Ej Ek):=(hb.cell (p:=⟨g,_,none⟩) xh).trans N16.out;have p5b:WM.cell? ⟨w.heap.size,5,none⟩=some (.string r.bQ):=(hb.cell (p:=⟨w.heap.size,5,none⟩) s1).trans Z5.out;have t1:w.heap.size<WM.heap.size:=gO s1 hb.size;have t2:g<WM.heap.size:=gO xh hb.size;have HND:=aa sX;have Lg:=aa hb;clear sX hb));have HF:Hid (j8 B w0 w d [r,q] y (.returned (.tuple #[.iface 98 (.pointer (some ⟨WM.heap.size,0,none⟩)),SV])) (WM.alloc (.cells #[.pointer (some ⟨gs,0,none⟩),.string r.bQ] 100))):=aa (NA HH.out.2.2.2.2.1 HH.out.1 H4.out HH.out.2.1 HH.out.2.2.1 HSV.out bZ.out HND.out Lg.out);go_wp2_with fail;go_ret2;exact HF.out
structure RV where
 r:PR
 m:Value
 o:Value
 i:Value
 l:Value
def rvC (x:RV):List Value:=lF x.r x.m x.o x.i x.l
theorem Zo (x:RV):(rvC x).length=17:=rfl
def Yk (w:World) (xs:List RV):Prop:= ∀x∈xs,bw 0 w x.r x.m x.o x.i x.l
theorem Yk.below {w w':World} {xs:List RV} (h:Yk w xs) (hb:Below w.heap.size w w'):Yk w' xs:=fun x hx=>(h x hx).below hb
theorem eA.jy {e:TypeId} {xs:List RV} (h:w.ownsRow b e 17 v xs.length (xs.flatMap rvC)) (hl:Yk w xs):eA w v (xs.map (·.r)):=by
 obtain⟨ao,c,h1,h2⟩:=mL rvC 17 Zo xs h;have uu: ∃c2,v= .slice ao xs.length c2∧xs.length≤c2:=by
  rcases h.2 with⟨hv,hn⟩|⟨g,cap,cur,hv,_,_,hc,_⟩
  ·rw[h1]at hv;injection hv with e1 e2 e3
   exact⟨0,by rw[h1,e3],by omega⟩
  ·rw[h1]at hv;injection hv with e1 e2 e3
   exact⟨c,h1,by omega⟩
 obtain⟨c2,Ht,hle⟩:=uu;refine⟨⟨ao,c2,by rw[Ht,kG],fun j hj=>?_⟩,ao,c2,by rw[Ht,kG],by rw[kG];exact hle⟩;have Pw:j<xs.length:=by simpa using hj
 obtain⟨g,o,a,lb,u,x⟩:=h2 j Pw;have e:(xs.map (·.r))[j]=xs[j].r:=by simp
 rw[e];refine⟨g,o,a,aT _,u,xs[j].m,xs[j].o,xs[j].i,xs[j].l,hl _ (gj Pw),fun k hk=>?_⟩;rw[x k hk];exact lB _
structure OR (lo:Nat) (W:World) (v:Value) (xs:List WI) (rs:List PR):Prop where
 own:W.ownsRow lo 46 17 v xs.length (xs.flatMap WI.cs)
 px: ∀z∈xs,z.Px lo W
 Dm:xs.Pairwise WI.XP
 key:xs.map (·.r)=rs
theorem OR.below {lo:Nat} {W W':World} {v:Value} {xs:List WI} {rs:List PR} (h:OR lo W v xs rs) (hb:Below W.heap.size W W'):OR lo W' v xs rs:=⟨aD h.own hb,fun z hz=>(h.px z hz).below hb,h.Dm,h.key⟩
def WI.rv (x:WI):RV:=⟨x.r,x.m,x.o,x.i,x.l⟩
theorem Zp (xs:List WI):(xs.map WI.rv).flatMap rvC=xs.flatMap WI.cs:=by
 induction xs with
 |nil=>rfl
 |cons x xs ih=>rw[mv,xk,xk,ih];rfl
theorem OR.rows {xs:List WI} (h:OR lo W v xs rs):eA W v rs:=by
 have h1:=h.own;rw[←Zp,show xs.length=(xs.map WI.rv).length by simp]at h1;have:=eA.jy h1 fun x hx=>by
  obtain⟨z,hz,rfl⟩:=vD.1 hx;exact(h.px z hz).1.ls.lo (aT _)
 rw[List.map_map]at this;rw[←h.key];exact this
theorem OR.len {xs:List WI} (h:OR lo W v xs rs):xs.length=rs.length:=by rw[←h.key,kG]
theorem rU.or (h:rU w rs e w'): ∃ao n c xs,e= .returned (.slice ao n c)∧OR w.heap.size w' (.slice ao n c) xs rs∧Below w.heap.size w w':=by
 obtain⟨vv,xs,rfl,h1,h2,h3,h4,h5⟩:=h;obtain⟨ao,n,c,rfl⟩:=bA h2;exact⟨ao,n,c,xs,rfl,⟨h2,h3,h4,h1⟩,h5⟩
theorem wD.or (h:wD w L e w') (hL:L.map (·.2)=rs): ∃ao n c xs,e= .returned (.slice ao n c)∧OR w.heap.size w' (.slice ao n c) xs rs∧Below w.heap.size w w':=by
 obtain⟨vv,xs,rfl,h1,h2,h3,h4,h5⟩:=h;obtain⟨ao,n,c,rfl⟩:=bA h2;refine⟨ao,n,c,xs,rfl,⟨h2,h3,h4,?_⟩,h5⟩;rw[←hL,←h1,List.map_map];rfl
theorem vN.push {p d lo:Nat} {pre:List (Nat×PR)} {W W3:World} {v v' vm:Value} {zs:List (rk×Value)} {r:PR} (h1:zs.map (·.1)=jT (pre.map (·.2))) (hb:aH W p 51 #[v]) (ho:W.ownsRow (p+1) 60 4 v zs.length (zs.flatMap A1)) (hm: ∀z∈zs,vp (p+1) v W z.2 z.1.ms) (hx:LY (p+1) W zs)
  (hk:r.kind=3) (hv:xy lo W vm r.ms) (hap: ∀z∈zs,cJ z.2 vm) (Aq:p+1≤lo) (alc: ∀q,v.ownBlock=some q→q<lo)
  (PK:W3.ownsRow (p+1) 60 4 v' (zs.length+1) (zs.flatMap A1++[.string r.text,vm,.string r.off,.string r.tim])) (hg:W.grownBy W3 v.ownBlock) (ht:fl v v'∨(v'.ownBlock=some (W.heap.size+1)∧W.grownBy W3 none)):
  vN p (pre++[(d,r)]) (W3.setCell ⟨p,0,none⟩ v'):=by
 have cr:aH W3 p 51 #[v]:=hb.grown hg (dL ho hb (by decide)).symm;have hmo: ∀{m:Value} {ms:List PM} {B:Nat},xy B W m ms→xy B (W3.setCell ⟨p,0,none⟩ v') m ms:=fun h=>aF (h.kept hg (cI h ho (by decide))) cr (by decide) v'
 refine⟨⟨v',zs++[(⟨r.text,r.ms,r.off,r.tim⟩,vm)],?_,?_,?_,?_,?_⟩⟩
 ·rw[mZ,mZ,mv,oI,mv,oI,zF,ar hk,h1]
 ·have:=cr.dw 0 v';simpa using this
 ·rw[yv,fT];exact aF (by simpa [A1]using PK) cr (by decide) v'
 ·intro z hz;rcases tE.1 hz with hz|hz
  ·exact((hm z hz).push hg ht).dw (vw p)
  ·rw[u9.1 hz];exact(vp.push (t5:=v) ⟨lo,W,fU.jy hv,Aq,iH.refl _ _,fun q hq=>.inl (alc q hq)⟩ hg ht).dw (vw p)
 ·refine⟨fun z hz=>?_,List.pairwise_append.2 ⟨hx.2,List.pairwise_singleton _ _,fun z hz y hy=>by rw[u9.1 hy];exact hap z hz⟩⟩;rcases tE.1 hz with hz|hz
  ·exact hmo (hx.1 z hz)
  ·rw[u9.1 hz];exact bW (hmo hv) Aq
theorem vN.start (w:World):vN w.heap.size [] (w.alloc (.cells #[.slice none 0 0] 51)):=⟨⟨_,[],rfl,aH.new _ _ _,ur _ _ _ _,(fun z h=>by cases h),(fun z h=>by cases h),List.Pairwise.nil⟩⟩
theorem vN.post (h:vN p L W) (hp:w.heap.size≤p+1) (hb:Below w.heap.size w W): ∃ao n c,aH W p 51 #[.slice ao n c]∧pw w L (.returned (.slice ao n c)) W:=by
 obtain⟨v,zs,h1,h2,h3,h4,h5⟩:=h.ex;obtain⟨ao,n,c,rfl⟩:=bA h3;refine⟨ao,n,c,h2,_,zs,rfl,h1,bW h3 hp,fun z hz=>?_,hb,fun z hz=>bW (h5.1 z hz) hp,h5.2⟩;obtain⟨lo,w1,k1,k2,k3,k4⟩:=h4 z hz;exact⟨lo,w1,k1,bn hp k2,k3,k4⟩
