import Derived.Test.YtcdoilkjmjbgmaaGreatDoorR41
import Derived.Test.YtcdoilkjmjbgmaaGreatDoorR43
/- Part of the proof of YtcdoilkjmjbgmaaGreatDoorCardR: TrZr TrZh. -/
set_option maxRecDepth 100000
set_option maxHeartbeats 4000000
set_option linter.unusedVariables false
set_option linter.unusedSimpArgs false
namespace Go.Proofs.YtcdoilkjmjbgmaaGreatDoor
open Go.RowKit
open Tryz
variable {r q:PR} {B gs d b:Nat} {w0 w wc WM W W':World} {y:List PR} {SV v t5 t6:Value} {L:List (Nat×PR)} {ks:List Value}
theorem RN (h:az r=true) (h4:r.kind=4):r={zr 4 1 with bV:=r.bV}:=by
 obtain⟨jR,_,hu⟩:=jt h;obtain⟨kind,kids,op,text,ms,bV,step,off,tim,bool,given,on,mls,card,inc,without,labels⟩:=r;simp only at*
 subst h4;simp[gz,zr]at hu;simp[du]at jR;simp[zr,hu,jR]
theorem Y4 (h:az r=true) (h3:r.kind=3):r={zr 3 0 with text:=r.text,ms:=r.ms,off:=r.off,tim:=r.tim}:=by
 obtain⟨jR,_,hu⟩:=jt h;obtain⟨kind,kids,op,text,ms,bV,step,off,tim,bool,given,on,mls,card,inc,without,labels⟩:=r;simp only at*
 subst h3;simp[gz,zr]at hu;simp[du]at jR;simp[zr,hu,jR]
theorem NR (hB:B≤w.heap.size) (zW:az r=true) (h4:r.kind=4) (hqs:az q=true) (ZE:q.kind=3) (Qm:eC w0 SV y) (aW:Below w.heap.size w wc)
  (rb:ba wc.drew.heap.size WM (.iface 84 (.pointer (some ⟨gs,0,none⟩))) {zr 3 0 with text:=q.text,ms:=q.ms,off:=q.off,tim:=q.tim} []) (hb:Below wc.drew.heap.size wc.drew WM):
  kf B w0 w d [r,q] y (.returned (.tuple #[.iface 98 (.pointer (some ⟨WM.heap.size,0,none⟩)),SV])) (WM.alloc (.cells #[.pointer (some ⟨gs,0,none⟩),.string r.bV] 100)):=by
 have hl1:=aW.size;have Az:wc.heap.size≤WM.heap.size:=hb.size;have F0:Below WM.heap.size WM (WM.alloc (.cells #[.pointer (some ⟨gs,0,none⟩),.string r.bV] 100)):=(aV _ _).alloc (aS _) _;have hz:=aK.new WM 100 #[.pointer (some ⟨gs,0,none⟩),.string r.bV];rw[←Y4 hqs ZE]at rb;have hk:=dK.mk (d+1) _ q [] (fun _=>[]) ((rb.below F0).lo (b':=B) (by show B≤wc.heap.size;omega)) (fun i h=>absurd h (by simp));have hn:=ba.range (b:=B) (w:=WM.alloc (.cells #[.pointer (some ⟨gs,0,none⟩),.string r.bV] 100)) WM.heap.size (by omega) hz.lt r.bV gs (hz.cell 0) (hz.cell 1);rw[←RN zW h4]at hn;have hT:=dK.mk d _ r _ (fun _=>[(d+1,q)]) hn (fun i h=>by
  have h0:i=0:=by simpa using h
  subst h0;exact hk)
 have hA:=hT.nt;have e:(((d,r)::(List.range [Value.iface 84 (.pointer (some ⟨gs,0,none⟩))].length).flatMap fun _=>[(d+1,q)]).map (·.2):List PR)=[r,q]:=rfl;rw[e]at hA;rw[hA]at hT;exact⟨_,SV,rfl,hT,Qm,(aW.drew.trans (hb.mono hl1)).trans (F0.mono (by omega))⟩
theorem NS (a:Addr) (n k:Nat) (h:n+1≤k) (W:World):(Instr.slice 22 (.slice (some a) (n+1) k) (some (.int .i64 1)) none none).run prog W= .ok (.slice (if k=1 then some a else some (a.add 17)) n (k-1)) W:=by
 have h1:(1:Int)≤(n:Int)+1:=by omega
 have h2:(n:Int)+1≤(k:Int):=by omega
 have hu:=underlying22;have hs: ∀W,(sizeOf 46).run prog W= .ok 17 W:=fun W=>by kernel_rfl
 unfold Instr.slice;simp[go_sem,run_underlying hu,h,h1,h2,hs]
theorem Lg (hB:B≤w.heap.size) (LD:Below w0.heap.size w0 w) (jl:eC w0 v (r::q::y)) (zW:az r=true) (h4:r.kind=4) (ZE:q.kind=3) (hqs:az q=true) (hql:gD q) (hlen:y.length≤1099511627776):
  Calls prog 32 #[v] w (kf B w0 w d [r,q] y):=by
 obtain⟨ao,c,rfl,hle⟩:=jl.2;have hrc:=jl;obtain⟨_,_,hv,hc⟩:=(jl.below LD).1;injection hv with e1 e2 e3
 subst e1 e3;obtain⟨g,o,rfl,_,hg,vm,vo,vi,vl,lr,bh⟩:=hc 0 (by simp);obtain⟨g',o',he,_,_,um,uo,ui,ul,hlq,tm⟩:=hc 1 (by simp);cases he;simp only[IX,List.getElem_cons_succ,yT,iK,Bp]at lr bh hlq tm;obtain⟨⟨Oo,Ou,rfl,_⟩,⟨PY,P3,rfl,_⟩,⟨Oq,Ow,rfl,_⟩,⟨LP,LR,rfl,_⟩⟩:=id lr;obtain⟨⟨IB,ID,rfl,_⟩,⟨tu,Ik,rfl,_⟩,⟨F4,F6,rfl,_⟩,⟨Er,Et,rfl,_⟩⟩:=id hlq;obtain⟨Ot,afc⟩: ∃n,n=r.ms.length:=⟨_,rfl⟩;obtain⟨PZ,afd⟩: ∃n,n=r.mls.length:=⟨_,rfl⟩;obtain⟨Ov,afe⟩: ∃n,n=r.inc.length:=⟨_,rfl⟩;obtain⟨LQ,aff⟩: ∃n,n=r.labels.length:=⟨_,rfl⟩;obtain⟨IC,afg⟩: ∃n,n=q.ms.length:=⟨_,rfl⟩;obtain⟨Ij,Th⟩: ∃n,n=q.mls.length:=⟨_,rfl⟩;obtain⟨F5,afh⟩: ∃n,n=q.inc.length:=⟨_,rfl⟩;obtain⟨Es,afi⟩: ∃n,n=q.labels.length:=⟨_,rfl⟩;rw[←afc,←afd,←afe,←aff]at lr bh;rw[←afg,←Th,←afh,←afi]at hlq tm;have DC:Hid (eC w0 (.slice (some ⟨g,o+17,none⟩) (q::y).length (c-1)) (q::y)):=aa hrc.tail;simp only[dZ]at hle;obtain⟨n,hn⟩: ∃n,n=y.length:=⟨_,rfl⟩;have hLn:(r::q::y).length=n+1+1:=by rw[hn];simp
 rw[hLn];rw[←hn]at hle hlen;obtain⟨k,rfl⟩: ∃k,c=k+1:=⟨c-1,by omega⟩;have Xl:nk r=1:=by
  have h1:=(jt zW).1;rw[h4]at h1;simp[du]at h1;unfold nk;omega
 have Xx:Hid (∀W,Below w.heap.size w W→Calls prog 44 #[.agg #[.int .i64 q.kind,.int .i64 q.kids,.string q.op,.string q.text,.slice IB IC ID,.string q.bV,.string q.step,.string q.off,.string q.tim,.bool q.bool,.bool q.given,.bool q.on,.slice tu Ij Ik,.int .i64 q.card,.slice F4 F5 F6,.bool q.without,.slice Er Es Et]] W (AN W q)):=aa fun W hb=>uf (r:=q) (hlq.1.below hb) hql.1
 have c0:w.cell? ⟨g,o,none⟩=some (.int .i64 r.kind):=bh 0 (by omega);have c1:w.cell? ⟨g,o+1,none⟩=some (.int .i64 r.kids):=bh 1 (by omega);have c2:w.cell? ⟨g,o+2,none⟩=some (.string r.op):=bh 2 (by omega);have c3:w.cell? ⟨g,o+3,none⟩=some (.string r.text):=bh 3 (by omega);have c4:w.cell? ⟨g,o+4,none⟩=some (.slice Oo Ot Ou):=bh 4 (by omega);have c5:w.cell? ⟨g,o+5,none⟩=some (.string r.bV):=bh 5 (by omega);have c6:w.cell? ⟨g,o+6,none⟩=some (.string r.step):=bh 6 (by omega);have c7:w.cell? ⟨g,o+7,none⟩=some (.string r.off):=bh 7 (by omega);have c8:w.cell? ⟨g,o+8,none⟩=some (.string r.tim):=bh 8 (by omega);have c9:w.cell? ⟨g,o+9,none⟩=some (.bool r.bool):=bh 9 (by omega);have P4:w.cell? ⟨g,o+10,none⟩=some (.bool r.given):=bh 10 (by omega);have P5:w.cell? ⟨g,o+11,none⟩=some (.bool r.on):=bh 11 (by omega);have c12:w.cell? ⟨g,o+12,none⟩=some (.slice PY PZ P3):=bh 12 (by omega);have P6:w.cell? ⟨g,o+13,none⟩=some (.int .i64 r.card):=bh 13 (by omega);have P7:w.cell? ⟨g,o+14,none⟩=some (.slice Oq Ov Ow):=bh 14 (by omega);have Ox:w.cell? ⟨g,o+15,none⟩=some (.bool r.without):=bh 15 (by omega);have Oy:w.cell? ⟨g,o+16,none⟩=some (.slice LP LQ LR):=bh 16 (by omega);have M0:Hid (w.cell? ⟨g,o+17,none⟩=some (.int .i64 q.kind)):=aa (tm 0 (by omega));have M1:Hid (w.cell? ⟨g,o+17+1,none⟩=some (.int .i64 q.kids)):=aa (tm 1 (by omega));have M2:Hid (w.cell? ⟨g,o+17+2,none⟩=some (.string q.op)):=aa (tm 2 (by omega));have M3:Hid (w.cell? ⟨g,o+17+3,none⟩=some (.string q.text)):=aa (tm 3 (by omega));have M4:Hid (w.cell? ⟨g,o+17+4,none⟩=some (.slice IB IC ID)):=aa (tm 4 (by omega));have M5:Hid (w.cell? ⟨g,o+17+5,none⟩=some (.string q.bV)):=aa (tm 5 (by omega));have M6:Hid (w.cell? ⟨g,o+17+6,none⟩=some (.string q.step)):=aa (tm 6 (by omega));have M7:Hid (w.cell? ⟨g,o+17+7,none⟩=some (.string q.off)):=aa (tm 7 (by omega));have M8:Hid (w.cell? ⟨g,o+17+8,none⟩=some (.string q.tim)):=aa (tm 8 (by omega));have M9:Hid (w.cell? ⟨g,o+17+9,none⟩=some (.bool q.bool)):=aa (tm 9 (by omega));have M10:Hid (w.cell? ⟨g,o+17+10,none⟩=some (.bool q.given)):=aa (tm 10 (by omega));have M11:Hid (w.cell? ⟨g,o+17+11,none⟩=some (.bool q.on)):=aa (tm 11 (by omega));have M12:Hid (w.cell? ⟨g,o+17+12,none⟩=some (.slice tu Ij Ik)):=aa (tm 12 (by omega));have M13:Hid (w.cell? ⟨g,o+17+13,none⟩=some (.int .i64 q.card)):=aa (tm 13 (by omega));have M14:Hid (w.cell? ⟨g,o+17+14,none⟩=some (.slice F4 F5 F6)):=aa (tm 14 (by omega));have M15:Hid (w.cell? ⟨g,o+17+15,none⟩=some (.bool q.without)):=aa (tm 15 (by omega));have M16:Hid (w.cell? ⟨g,o+17+16,none⟩=some (.slice Er Es Et)):=aa (tm 16 (by omega));have HN:=aa hn;have HKN:=aa Xl;have HH:=aa (And.intro zW (And.intro hqs (And.intro ZE (And.intro LD (And.intro hB lr)))));have p4:(r.kind==4)=true:=by simp[h4]
 have H4:=aa h4;have q0:((k:Int)+1=1)=False:=bU (by omega);have q00:(k+1=1)=False:=bU (by omega);have arZ:(k=0)=False:=bU (by omega);clear bh hc jl hrc zW Xl afc afd afe aff afg Th afh afi hlq tm lr h4 ZE hqs hql hLn hn hB LD;go_enter func32,ntmps32;go_upto_region 2 with(refine ay rfl 46 (.tmp 4) (.tmp 9) rfl w.heap.size _ rfl rfl (aK.new _ _ _) aQ rfl rfl ?_)
 intro W' hz jw;go_upto_region 2 with(fail)
 have aW:Below w.heap.size w W':=fF ((aV w.heap.size w).alloc (aS _) _) jw (by simp) (aS _);have HZ:=aa hz;have cn:=aa aW;clear hz jw aW c0 c1 c2 c3 c4 c5 c6 c7 c8 c9 P4 P5 c12 P6 P7 Ox Oy;go_cut [0]from 10 to 11 (fun t0 wx=> ∃oq,t0= .slice (some ⟨g,oq,none⟩) (n+1) k∧wx=W'∧Hid (oq=o+17))
 case first=>
  go_wp2_with fail;go_meet;exact⟨_,rfl,rfl,aa rfl⟩
 case rest=>
  obtain⟨oq,rfl,rfl,Il⟩:=hcut;have z0:wc.cell? ⟨w.heap.size,0,none⟩=some (.int .i64 r.kind):=HZ.out.cell 0;have s1:=HZ.out.lt;have yE:g<wc.heap.size:=gU hg cn.out.size;have z5:wc.cell? ⟨w.heap.size,5,none⟩=some (.string r.bV):=HZ.out.cell 5;have d5:wc.drew.cell? ⟨w.heap.size,5,none⟩=some (.string r.bV):=z5;have Z5:=aa z5;have n0:wc.cell? ⟨g,oq,none⟩=some (.int .i64 q.kind):=by rw[Il.out];exact(cn.out.cell (p:=⟨g,_,none⟩) hg).trans M0.out
  have m0:wc.drew.cell? ⟨g,oq,none⟩=some (.int .i64 q.kind):=n0;have N0:=aa n0;have n1:wc.cell? ⟨g,oq+1,none⟩=some (.int .i64 q.kids):=by rw[Il.out];exact(cn.out.cell (p:=⟨g,_,none⟩) hg).trans M1.out
  have m1:wc.drew.cell? ⟨g,oq+1,none⟩=some (.int .i64 q.kids):=n1;have N1:=aa n1;have n2:wc.cell? ⟨g,oq+2,none⟩=some (.string q.op):=by rw[Il.out];exact(cn.out.cell (p:=⟨g,_,none⟩) hg).trans M2.out
  have m2:wc.drew.cell? ⟨g,oq+2,none⟩=some (.string q.op):=n2;have N2:=aa n2;have n3:wc.cell? ⟨g,oq+3,none⟩=some (.string q.text):=by rw[Il.out];exact(cn.out.cell (p:=⟨g,_,none⟩) hg).trans M3.out
  have m3:wc.drew.cell? ⟨g,oq+3,none⟩=some (.string q.text):=n3;have N3:=aa n3;have n4:wc.cell? ⟨g,oq+4,none⟩=some (.slice IB IC ID):=by rw[Il.out];exact(cn.out.cell (p:=⟨g,_,none⟩) hg).trans M4.out
  have m4:wc.drew.cell? ⟨g,oq+4,none⟩=some (.slice IB IC ID):=n4;have N4:=aa n4;have n5:wc.cell? ⟨g,oq+5,none⟩=some (.string q.bV):=by rw[Il.out];exact(cn.out.cell (p:=⟨g,_,none⟩) hg).trans M5.out
  have m5:wc.drew.cell? ⟨g,oq+5,none⟩=some (.string q.bV):=n5;have N5:=aa n5;have n6:wc.cell? ⟨g,oq+6,none⟩=some (.string q.step):=by rw[Il.out];exact(cn.out.cell (p:=⟨g,_,none⟩) hg).trans M6.out
  have m6:wc.drew.cell? ⟨g,oq+6,none⟩=some (.string q.step):=n6;have N6:=aa n6;have n7:wc.cell? ⟨g,oq+7,none⟩=some (.string q.off):=by rw[Il.out];exact(cn.out.cell (p:=⟨g,_,none⟩) hg).trans M7.out
  have m7:wc.drew.cell? ⟨g,oq+7,none⟩=some (.string q.off):=n7;have N7:=aa n7;have n8:wc.cell? ⟨g,oq+8,none⟩=some (.string q.tim):=by rw[Il.out];exact(cn.out.cell (p:=⟨g,_,none⟩) hg).trans M8.out
  have m8:wc.drew.cell? ⟨g,oq+8,none⟩=some (.string q.tim):=n8;have N8:=aa n8;have n9:wc.cell? ⟨g,oq+9,none⟩=some (.bool q.bool):=by rw[Il.out];exact(cn.out.cell (p:=⟨g,_,none⟩) hg).trans M9.out
  have m9:wc.drew.cell? ⟨g,oq+9,none⟩=some (.bool q.bool):=n9;have N9:=aa n9;have n10:wc.cell? ⟨g,oq+10,none⟩=some (.bool q.given):=by rw[Il.out];exact(cn.out.cell (p:=⟨g,_,none⟩) hg).trans M10.out
  have m10:wc.drew.cell? ⟨g,oq+10,none⟩=some (.bool q.given):=n10;have N10:=aa n10;have n11:wc.cell? ⟨g,oq+11,none⟩=some (.bool q.on):=by rw[Il.out];exact(cn.out.cell (p:=⟨g,_,none⟩) hg).trans M11.out
  have m11:wc.drew.cell? ⟨g,oq+11,none⟩=some (.bool q.on):=n11;have N11:=aa n11;have n12:wc.cell? ⟨g,oq+12,none⟩=some (.slice tu Ij Ik):=by rw[Il.out];exact(cn.out.cell (p:=⟨g,_,none⟩) hg).trans M12.out
  have m12:wc.drew.cell? ⟨g,oq+12,none⟩=some (.slice tu Ij Ik):=n12;have N12:=aa n12;have n13:wc.cell? ⟨g,oq+13,none⟩=some (.int .i64 q.card):=by rw[Il.out];exact(cn.out.cell (p:=⟨g,_,none⟩) hg).trans M13.out
  have m13:wc.drew.cell? ⟨g,oq+13,none⟩=some (.int .i64 q.card):=n13;have N13:=aa n13;have n14:wc.cell? ⟨g,oq+14,none⟩=some (.slice F4 F5 F6):=by rw[Il.out];exact(cn.out.cell (p:=⟨g,_,none⟩) hg).trans M14.out
  have m14:wc.drew.cell? ⟨g,oq+14,none⟩=some (.slice F4 F5 F6):=n14;have N14:=aa n14;have n15:wc.cell? ⟨g,oq+15,none⟩=some (.bool q.without):=by rw[Il.out];exact(cn.out.cell (p:=⟨g,_,none⟩) hg).trans M15.out
  have m15:wc.drew.cell? ⟨g,oq+15,none⟩=some (.bool q.without):=n15;have N15:=aa n15;have n16:wc.cell? ⟨g,oq+16,none⟩=some (.slice Er Es Et):=by rw[Il.out];exact(cn.out.cell (p:=⟨g,_,none⟩) hg).trans M16.out
  have m16:wc.drew.cell? ⟨g,oq+16,none⟩=some (.slice Er Es Et):=n16;have N16:=aa n16;go_upto_region 4 with(fail)
  obtain⟨SV,hSV⟩: ∃SV,SV=Value.slice (if k=1 then some ⟨g,oq,none⟩else some ((⟨g,oq,none⟩:Addr).add 17)) n (k-1):=⟨_,rfl⟩;have sl: ∀W,(Instr.slice 22 (.slice (some ⟨g,oq,none⟩) (n+1) k) (some (.int .i64 1)) none none).run prog W= .ok SV W:=fun W=>by rw[hSV];exact NS _ n k (by omega) W
  have HSV:Hid (eC w0 SV y):=aa (by
   rw[hSV];by_cases e:k=1
   ·have h0:y=[]:=pv.1 (by rw[←HN.out];omega);subst h0;have:n=0:=by omega
    subst this;exact eC.none_
   ·rw[af e,HN.out,Il.out];have h1:=DC.out;rw[Nat.add_sub_cancel]at h1;exact h1.tail)
  clear hSV;go_region_held3 (fun W=>W.cell? ⟨g,oq,none⟩=some (.int .i64 q.kind)∧W.cell? ⟨g,oq+1,none⟩=some (.int .i64 q.kids)∧W.cell? ⟨g,oq+2,none⟩=some (.string q.op)∧W.cell? ⟨g,oq+3,none⟩=some (.string q.text)∧W.cell? ⟨g,oq+4,none⟩=some (.slice IB IC ID)∧W.cell? ⟨g,oq+5,none⟩=some (.string q.bV)∧W.cell? ⟨g,oq+6,none⟩=some (.string q.step)∧W.cell? ⟨g,oq+7,none⟩=some (.string q.off)∧W.cell? ⟨g,oq+8,none⟩=some (.string q.tim)∧W.cell? ⟨g,oq+9,none⟩=some (.bool q.bool)∧W.cell? ⟨g,oq+10,none⟩=some (.bool q.given)∧W.cell? ⟨g,oq+11,none⟩=some (.bool q.on)∧W.cell? ⟨g,oq+12,none⟩=some (.slice tu Ij Ik)∧W.cell? ⟨g,oq+13,none⟩=some (.int .i64 q.card)∧W.cell? ⟨g,oq+14,none⟩=some (.slice F4 F5 F6)∧W.cell? ⟨g,oq+15,none⟩=some (.bool q.without)∧W.cell? ⟨g,oq+16,none⟩=some (.slice Er Es Et)∧W.cell? ⟨w.heap.size,5,none⟩=some (.string r.bV)) (first|go_keep) (first|(go_at_call 44;(with_reducible refine(Xx.out _ cn.out.drew).mono ?_);rintro e WM ⟨gs,rfl,rb,hb⟩;have p0:WM.cell? ⟨g,oq,none⟩=some (.int .i64 q.kind):=(hb.cell (p:=⟨g,_,none⟩) yE).trans N0.out;have p1:WM.cell? ⟨g,oq+1,none⟩=some (.int .i64 q.kids):=(hb.cell (p:=⟨g,_,none⟩) yE).trans N1.out;have p2:WM.cell? ⟨g,oq+2,none⟩=some (.string q.op):=(hb.cell (p:=⟨g,_,none⟩) yE).trans N2.out;have p3:WM.cell? ⟨g,oq+3,none⟩=some (.string q.text):=(hb.cell (p:=⟨g,_,none⟩) yE).trans N3.out;have p4:WM.cell? ⟨g,oq+4,none⟩=some (.slice IB IC ID):=(hb.cell (p:=⟨g,_,none⟩) yE).trans N4.out;have p5:WM.cell? ⟨g,oq+5,none⟩=some (.string q.bV):=(hb.cell (p:=⟨g,_,none⟩) yE).trans N5.out;have p6:WM.cell? ⟨g,oq+6,none⟩=some (.string q.step):=(hb.cell (p:=⟨g,_,none⟩) yE).trans N6.out;have p7:WM.cell? ⟨g,oq+7,none⟩=some (.string q.off):=(hb.cell (p:=⟨g,_,none⟩) yE).trans N7.out;have p8:WM.cell? ⟨g,oq+8,none⟩=some (.string q.tim):=(hb.cell (p:=⟨g,_,none⟩) yE).trans N8.out;have p9:WM.cell? ⟨g,oq+9,none⟩=some (.bool q.bool):=(hb.cell (p:=⟨g,_,none⟩) yE).trans N9.out;have p10:WM.cell? ⟨g,oq+10,none⟩=some (.bool q.given):=(hb.cell (p:=⟨g,_,none⟩) yE).trans N10.out;have p11:WM.cell? ⟨g,oq+11,none⟩=some (.bool q.on):=(hb.cell (p:=⟨g,_,none⟩) yE).trans N11.out;have p12:WM.cell? ⟨g,oq+12,none⟩=some (.slice tu Ij Ik):=(hb.cell (p:=⟨g,_,none⟩) yE).trans N12.out;have p13:WM.cell? ⟨g,oq+13,none⟩=some (.int .i64 q.card):=(hb.cell (p:=⟨g,_,none⟩) yE).trans N13.out;have p14:WM.cell? ⟨g,oq+14,none⟩=some (.slice F4 F5 F6):=(hb.cell (p:=⟨g,_,none⟩) yE).trans N14.out;have p15:WM.cell? ⟨g,oq+15,none⟩=some (.bool q.without):=(hb.cell (p:=⟨g,_,none⟩) yE).trans N15.out;have p16:WM.cell? ⟨g,oq+16,none⟩=some (.slice Er Es Et):=(hb.cell (p:=⟨g,_,none⟩) yE).trans N16.out;have p5b:WM.cell? ⟨w.heap.size,5,none⟩=some (.string r.bV):=(hb.cell (p:=⟨w.heap.size,5,none⟩) s1).trans Z5.out;have t1:w.heap.size<WM.heap.size:=gU s1 hb.size;have t2:g<WM.heap.size:=gU yE hb.size;have HND:=aa rb;have LB:=aa hb;clear rb hb));have HF:Hid (kf B w0 w d [r,q] y (.returned (.tuple #[.iface 98 (.pointer (some ⟨WM.heap.size,0,none⟩)),SV])) (WM.alloc (.cells #[.pointer (some ⟨gs,0,none⟩),.string r.bV] 100))):=aa (NR HH.out.2.2.2.2.1 HH.out.1 H4.out HH.out.2.1 HH.out.2.2.1 HSV.out cn.out HND.out LB.out);go_wp2_with fail;go_ret2;exact HF.out
def rJ (B:Nat) (d:Nat) (t5:Value) (W:World) (v:Value) (L:List (Nat×PR)):Prop:= ∃lo w1,dK lo w1 d v L∧B≤lo∧jj lo w1 W∧Off lo w1 t5
theorem rJ.tree (h:rJ B d t5 W v L):dK B W d v L:=by
 obtain⟨lo,w1,h1,h2,h3,_⟩:=h;exact(h1.agree h3).lo h2
theorem rJ.below {B d:Nat} {t5:Value} {W W':World} {v:Value} {L:List (Nat×PR)} (h:rJ B d t5 W v L) (hb:Below W.heap.size W W'):rJ B d t5 W' v L:=by
 obtain⟨lo,w1,h1,h2,h3,h4⟩:=h;exact⟨lo,w1,h1,h2,h3.below hb,h4⟩
theorem rJ.push (h:rJ B d t5 W v L) (hg:W.grownBy W' t5.ownBlock) (ht:ix t5 t6∨(t6.ownBlock=some (W.heap.size+1)∧W.grownBy W' none)):rJ B d t6 W' v L:=by
 obtain⟨lo,w1,h1,h2,h3,h4⟩:=h;refine⟨lo,w1,h1,h2,h3.grow hg h4,fun q hq=>?_⟩;rcases ht with⟨g,n,m,cap,e1,e2⟩|⟨e1,_⟩
 ·subst e1 e2;exact h4 q (by simpa [Value.ownBlock]using hq)
 ·rw[e1]at hq;injection hq with hq
  have:=h3.1;omega
structure ο (B:Nat) (w0 w:World) (d:Nat) (x' y:List PR) (n i:Nat) (A:Array Value) (t0 t5:Value) (W:World):Prop where
 le:i≤n
 box:aK W w.heap.size 46 A
 ks: ∃(ks:List Value) (cV:Nat→List (Nat×PR)) (c rem:List PR),ks.length=i∧x'=c++rem∧trees (n-i) rem=true∧((List.range i).flatMap cV).map (·.2)=c∧
  W.ownsRow w.heap.size 27 1 t5 i ks∧(∀j (h:j<ks.length),rJ B (d+1) t5 W ks[j] (cV j))∧eC w0 t0 (rem++y)∧ ∀v∈ks,∃t x,v= .iface t x
 below:Below w.heap.size w W
theorem VV {α:Type} (cV:Nat→List α) (i:Nat) (L:List α):((List.range (i+1)).flatMap fun j=>if j=i then L else cV j)=(List.range i).flatMap cV++L:=by
 rw[fh];have h1: ∀n,n≤i→(List.range n).flatMap (fun j=>if j=i then L else cV j)=(List.range n).flatMap cV:=by
  intro n;induction n with
  |zero=>intro _;rfl
  |succ n ih=>
   intro h;rw[fh,fh,ih (by omega),af (by omega)]
 rw[h1 i (aS _),au rfl]
theorem Y5 (h:w.ownsRow b 27 1 v ks.length ks):pL b w v ks:=by
 rcases h.2 with⟨hv,hn⟩|⟨g,cap,cur,hv,hb,_⟩
 ·refine⟨none,0,by rw[hv,hn],fun j hj=>absurd hj (by omega)⟩
 ·subst hv;refine⟨_,_,rfl,fun j hj=>⟨g,0,rfl,hb,(I9 h g rfl).2,?_⟩⟩;rw[kP,IY h j (by omega),eG hj]
theorem VW:(prog.info? 27).map (fun i=>(i.zero,i.size,i.bytes))=some (some .nilIface,1,16):=by kernel_rfl
theorem C9 : ∀ (m B : Nat) (w0 : World) (x y : List PR) (w : World) (d : Nat) (v : Value), x.length ≤ m → B ≤ w.heap.size → Below w0.heap.size w0 w → eC w0 v (x ++ y) → trees 1 x = true → (∀ r ∈ x, az r = true ∧ gD r) → dh (x ++ y) = true → (x ++ y).length ≤ 1099511627776 →
    Calls prog 32 #[v] w (kf B w0 w d x y)
  | 0, B, w0, x, y, w, d, v, hm, _, _, _, ht, _, _, _ => by
    obtain⟨r,x',rfl,_⟩:=sZ ht
    simp at hm
  | m + 1, B, w0, x, y, w, d, v, hm, hB, LD, jl, ht, BL, hrg, hlen => by
    obtain⟨r,x',rfl,ZP⟩:=sZ ht
    rw[iK]at ZP
    by_cases h40:r.kind=4
    · have tn := BL r (by simp)
      have aka : nk r = 1 := by
        have h1:=(jt tn.1).1
        rw[h40]at h1
        simp[du]at h1
        unfold nk;omega
      rw[aka]at ZP
      obtain⟨q,x2,rfl,htq⟩:=sZ ZP
      have ZE : q.kind = 3 := by
        rw[py,dh,h40]at hrg
        simp[iw]at hrg
        exact hrg.1
      have qK:=BL q (by simp)
      have Wm : nk q = 0 := by
        have h1:=(jt qK.1).1
        rw[ZE]at h1
        simp[du]at h1
        unfold nk;omega
      rw[Wm]at htq
      have mx:x2=[]:=CH.1 htq
      subst mx
      exact Lg hB LD jl tn.1 h40 ZE qK.1 qK.2 (by simp at hlen;omega)
    have H40:=aa h40
    clear h40
    obtain⟨ao,c,rfl,hle⟩:=jl.2
    have hrc:=jl
    obtain⟨_,_,hv,hc⟩:=(jl.below LD).1
    injection hv with e1 e2 e3
    subst e1 e3
    obtain⟨g,o,rfl,_,hg,vm,vo,vi,vl,lr,bh⟩:=hc 0 (by simp)
    simp only[py,IX,yT,iK]at lr bh
    obtain⟨⟨am,cm,rfl,_⟩,⟨tu,co,rfl,_⟩,⟨ai,ci,rfl,_⟩,⟨al,cl,rfl,_⟩⟩:=id lr
    obtain⟨nm,IE⟩: ∃n,n=r.ms.length:=⟨_,rfl⟩
    obtain⟨no,tJ⟩: ∃n,n=r.mls.length:=⟨_,rfl⟩
    obtain⟨ni,XD⟩: ∃n,n=r.inc.length:=⟨_,rfl⟩
    obtain⟨nl,IA⟩: ∃n,n=r.labels.length:=⟨_,rfl⟩
    rw[←IE,←tJ,←XD,←IA]at lr bh
    obtain⟨zW,hlr⟩:=BL r (by simp)
    have Xl:=wX zW
    have IH:Hid (∀(B:Nat) (w0:World) (x y:List PR) (w:World) (d:Nat) (v:Value),x.length≤m→B≤w.heap.size→Below w0.heap.size w0 w→eC w0 v (x++y)→trees 1 x=true→(∀r∈x,az r=true∧gD r)→dh (x++y)=true→(x++y).length≤1099511627776→Calls prog 32 #[v] w (kf B w0 w d x y)):=aa (C9 m)
    have c0:w.cell? ⟨g,o,none⟩=some (.int .i64 r.kind):=bh 0 (by omega)
    have c1:w.cell? ⟨g,o+1,none⟩=some (.int .i64 r.kids):=bh 1 (by omega)
    have c2:w.cell? ⟨g,o+2,none⟩=some (.string r.op):=bh 2 (by omega)
    have c3:w.cell? ⟨g,o+3,none⟩=some (.string r.text):=bh 3 (by omega)
    have c4:w.cell? ⟨g,o+4,none⟩=some (.slice am nm cm):=bh 4 (by omega)
    have c5:w.cell? ⟨g,o+5,none⟩=some (.string r.bV):=bh 5 (by omega)
    have c6:w.cell? ⟨g,o+6,none⟩=some (.string r.step):=bh 6 (by omega)
    have c7:w.cell? ⟨g,o+7,none⟩=some (.string r.off):=bh 7 (by omega)
    have c8:w.cell? ⟨g,o+8,none⟩=some (.string r.tim):=bh 8 (by omega)
    have c9:w.cell? ⟨g,o+9,none⟩=some (.bool r.bool):=bh 9 (by omega)
    have P4:w.cell? ⟨g,o+10,none⟩=some (.bool r.given):=bh 10 (by omega)
    have P5:w.cell? ⟨g,o+11,none⟩=some (.bool r.on):=bh 11 (by omega)
    have c12:w.cell? ⟨g,o+12,none⟩=some (.slice tu no co):=bh 12 (by omega)
    have P6:w.cell? ⟨g,o+13,none⟩=some (.int .i64 r.card):=bh 13 (by omega)
    have P7:w.cell? ⟨g,o+14,none⟩=some (.slice ai ni ci):=bh 14 (by omega)
    have Ox:w.cell? ⟨g,o+15,none⟩=some (.bool r.without):=bh 15 (by omega)
    have Oy:w.cell? ⟨g,o+16,none⟩=some (.slice al nl cl):=bh 16 (by omega)
    have ZN:=aa lr
    have HRC:=aa hrc
    have Zy:=aa BL
    have HKN:=aa Xl
    have HN4:=aa (And.intro IE (And.intro tJ (And.intro XD IA)))
    clear bh hc jl hrc BL Xl IE tJ XD IA
    obtain⟨L,hL⟩: ∃L,L=(x'++y).length:=⟨_,rfl⟩
    have hLn:(r::x'++y).length=L+1:=by rw[hL];simp
    rw[hLn]at hlen hle HRC ⊢
    have HL:=aa hL
    clear hL hLn
    go_enter func32,ntmps32
    go_upto_region 2 with(refine ay rfl 46 (.tmp 4) (.tmp 9) rfl w.heap.size _ rfl rfl (aK.new _ _ _) aQ rfl rfl ?_)
    intro W' hz jw
    go_upto_region 2 with(fail)
    have aW:Below w.heap.size w W':=fF ((aV w.heap.size w).alloc (aS _) _) jw (by simp) (aS _)
    have HZ:=aa hz
    have cn:=aa aW
    have HR1:=HRC
    clear hz jw aW c0 c1 c2 c3 c4 c5 c6 c7 c8 c9 P4 P5 c12 P6 P7 Ox Oy
    go_cut [0]from 10 to 11 (fun t0 wx=>wx=W'∧Hid (eC w0 t0 (x'++y)))
    case first =>
      by_cases jQ:c=1
      · subst jQ
        have HT : Hid (eC w0 (.slice (some ⟨g, o, none⟩) 0 0) (x' ++ y)) := aa (by
          have h0:x'++y=[]:=pv.1 (by rw[←HL.out];omega)
          rw[h0];exact eC.none_)
        obtain rfl:L=0:=by omega
        go_wp2_with fail
        go_meet
        exact⟨rfl,HT⟩
      · have HT : Hid (eC w0 (.slice (some ⟨g, o + 17, none⟩) L (c - 1)) (x' ++ y)) := aa (by
          have:=HR1.out.tail (l:=x'++y)
          rw[←HL.out]at this
          exact this)
        have q1:((c:Int)=1)=False:=bU (by omega)
        have q2:(c=1)=False:=bU jQ
        go_wp2_with fail
        go_meet
        exact⟨rfl,HT⟩
    case rest =>
      obtain⟨rfl,Xz⟩:=hcut
      obtain⟨a0,k0,F1,_⟩:=Xz.out.2
      subst F1
      rw[←HL.out]at Xz ⊢
      have z0:wc.cell? ⟨w.heap.size,0,none⟩=some (.int .i64 r.kind):=HZ.out.cell 0
      have z1:wc.cell? ⟨w.heap.size,1,none⟩=some (.int .i64 (nk r:Int)):=(HZ.out.cell 1).trans (by rw[←HKN.out];rfl)
      have as0 : nk r ≤ 1099511627776 := by
        have h1:=BZ x' (nk r) ZP
        have h2:=HL.out
        rw[iJ]at h2
        omega
      have HTR:=aa ZP
      have HRG:=aa hrg
      have HLL:=aa lr
      have HM:=aa (show x'.length≤m by simp at hm;omega)
      clear ht ZP hrg lr hm
      by_cases h4:r.kind=4
      · exact absurd h4 H40.out
      · have q4 : (r.kind == 4) = false := by simpa using h4
        have H4:=aa h4
        clear h4
        go_wp2_with fail
        go_loopw [0,5,28] (fun t0 t5 t28 wx=> ∃i:Nat,t28= .int .i64 (i:Int)∧Hid (ο B w0 w d x' y (nk r) i (dS r (.slice am nm cm) (.slice tu no co) (.slice ai ni ci) (.slice al nl cl)) t0 t5 wx)) (fun _ _ t28 _=>nk r-(intOf t28).toNat)
        case atStart=>exact⟨0,rfl,aa ⟨dQ _,HZ.out,⟨[],fun _=>[],[],x',rfl,rfl,HTR.out,rfl,rh _ _ _ _,(fun j h=>absurd h (by simp)),Xz.out,(fun v h=>by cases h)⟩,cn.out⟩⟩
        case round =>
          obtain⟨i,rfl,hI⟩:=hrel
          obtain⟨ks,cV,cc,rem,qY,WR,Ih,Qn,aL,zd,jl,WH⟩:=hI.out.ks
          obtain⟨a6,c6,hv6,abk⟩:=jl.2
          subst hv6
          obtain⟨n6,hn6⟩: ∃n,n=(rem++y).length:=⟨_,rfl⟩
          rw[←hn6]at jl abk hI ⊢
          have HN6:=aa hn6
          clear hn6
          by_cases ax:i<nk r
          · have p1 : ((i : Int) < (nk r : Int)) = True := aA (by omega)
            obtain⟨a,Qo,XF,PT,ZO⟩:=zu rem 1 (nk r-i-1) (by rw[show 1+(nk r-i-1)=nk r-i by omega];exact Ih)
            have Qp: ∀q∈a,q∈x':=fun q hq=>by rw[WR,XF];simp[hq]
            have Xt : a.length ≤ m := by
              have h1:=HM.out
              rw[WR,XF]at h1
              simp at h1;omega
            have Iw : (a ++ (Qo ++ y)).length ≤ 1099511627776 := by
              have h2:=HL.out
              rw[WR,XF]at h2
              simp at h2 ⊢;omega
            have afj : dh (a ++ (Qo ++ y)) = true := by
              refine sE (r::cc) _ ?_
              have h3:=HRG.out
              rw[WR,XF]at h3
              simpa [tx]using h3
            have Uh:eC w0 (.slice a6 n6 c6) (a++(Qo++y)):=by rw[←tx,←XF];exact jl
            have Bx:=aa (IH.out wr.heap.size w0 a (Qo++y) wr (d+1) _ Xt (aS _) (LD.trans (hI.out.below.mono LD.size)) Uh PT (fun q hq=>Zy.out q (yH _ (Qp q hq))) afj Iw)
            have hBw:B≤wr.heap.size:=bP hB hI.out.below.size
            have HK:=aa (And.intro qY (And.intro WR (And.intro XF (And.intro ZO (And.intro Qn (And.intro PT WH))))))
            have ag7:=aa zd
            have xM:=aa aL
            have Sw:i≤1099511627776:=by omega
            clear qY WR Ih Qn aL zd jl WH XF PT ZO Qp Xt Iw afj Uh abk
            go_wp2_with fail
            (with_reducible refine Bx.out.mono ?_)
            rintro e W2 ⟨nv,sv,rfl,htn,Qa,aN⟩
            obtain⟨tt,gg,rfl⟩:=htn.iface
            obtain⟨a7,c7,hv7,_⟩:=Qa.2
            subst hv7
            obtain⟨n7,hn7⟩: ∃n,n=(Qo++y).length:=⟨_,rfl⟩
            rw[←hn7]at Qa ⊢
            have HN7:=aa hn7
            clear hn7
            have TM:Hid (W2.ownsRow w.heap.size 27 1 u5 i ks):=aa (bf xM.out aN)
            have om:ks.length=i:=HK.out.1
            have HTN:=aa htn
            have HRN:=aa Qa
            have bC:=aa aN
            clear htn Qa aN
            go_wp2_with ((at_builtin;refine jM rfl (.tmp 35) (.tmp 37) 101 rfl w.heap.size 27 .nilIface 1 16 VW underlying101 rfl (by decide) _ _ _ rfl TM.out [.iface tt (.pointer (some ⟨gg,0,none⟩))] rfl rfl (zZ rfl) (by unfold maxLen;omega) (by omega) (bP hI.out.below.size bC.out.size) ?_))
            intro v3 W3 wb A5 htwo
            have Tf : Hid (ο B w0 w d x' y (nk r) (i + 1) (dS r (.slice am nm cm) (.slice tu no co) (.slice ai ni ci) (.slice al nl cl)) (.slice a7 n7 c7) v3 W3) := aa (by
              obtain⟨_,WR,XF,ZO,Qn,PT,WH⟩:=HK.out
              refine⟨ax,(hI.out.box.below bC.out hI.out.box.lt).grown A5 (cI TM.out (hI.out.box.below bC.out hI.out.box.lt) (by decide)).symm,⟨ks++[.iface tt (.pointer (some ⟨gg,0,none⟩))],fun j=>if j=i then nt (d+1) a else cV j,cc++a,Qo,by simp[om],by rw[WR,XF,tx],by rw[show nk r-(i+1)=nk r-i-1 by omega];exact ZO,?_,wb,?_,by rw[←HN7.out]at*;exact HRN.out,?_⟩,?_⟩
              · rw [VV, mX, CM PT, Qn]
              · intro j hj
                show rJ B (d+1) v3 W3 _ (if j=i then nt (d+1) a else cV j)
                by_cases hji:j=i
                · subst hji
                  rw[au rfl,List.getElem_append_right (by omega)]
                  simp only[om,Nat.sub_self,IX]
                  refine rJ.push (t5:=u5) ⟨wr.heap.size,W2,HTN.out,hBw,jj.refl _ _,fun q hq=>.inl (xM.out.lt q hq).2⟩ A5 htwo
                · have hj2 : j < ks.length := by simp at hj; omega
                  rw[af hji,List.getElem_append_left hj2]
                  exact((ag7.out j hj2).below bC.out).push A5 htwo
              · intro q hq
                rcases qx.1 hq with hq|hq
                · exact WH q hq
                · rw [xD.1 hq]; exact ⟨_, _, rfl⟩
              · exact (hI.out.below.trans (bC.out.mono hI.out.below.size)).grown A5 (bP hI.out.below.size bC.out.size) (fun q hq => (TM.out.lt q hq).1))
            obtain⟨a8,m8,c8,hv8⟩:=cu wb
            subst hv8
            clear wb A5 htwo om
            go_wp2_with fail
            exact⟨⟨i+1,by go_num,Tf⟩,by simp[intOf];omega⟩
          · have LO : i = nk r := by have := hI.out.le; omega
            have p1:((i:Int)<(nk r:Int))=False:=bU (by omega)
            have abl:rem=[]:=CH.1 (by rw[show nk r-i=0 by omega]at Ih;exact Ih)
            have hBw:B≤wr.heap.size:=bP hB hI.out.below.size
            have afk:pL B wr u5 ks:=Y5 (by rw[qY];exact bY aL hB)
            have HND:=aa (RI hBw (HLL.out.below hI.out.below) hlr zW H4.out afk (by rw[qY,LO]) WH)
            have HBX:=aa hI.out.box
            have abi : Hid (∀ v W2, ba B W2 v r ks → Below wr.heap.size wr W2 → kf B w0 w d (r :: x') y (.returned (.tuple #[v, .slice a6 n6 c6])) W2) := aa fun v W2 hn hb => by
              have hT:=dK.mk d v r ks cV hn fun j hj=>((zd j hj).tree).later hb
              have qt:((List.range ks.length).flatMap cV).map (·.2)=x':=by rw[qY,Qn,WR,abl,mz]
              have hA:=hT.nt
              rw[kO,qt]at hA
              rw[hA]at hT
              exact⟨v,_,rfl,hT,by rw[abl]at jl;exact jl,hI.out.below.trans (hb.mono hI.out.below.size)⟩
            obtain⟨a8,m8,c8,hv8⟩:=cu aL
            subst hv8
            clear qY WR Ih Qn aL zd jl WH afk abl LO abk
            go_wp2_with (first|(refine dA rfl 46 (.tmp 4) rfl w.heap.size rfl HBX.out underlying46 aQ ?_)|(go_at_call 61;refine HND.out.mono ?_;rintro e W2 ⟨v,rfl,hn,hb⟩;have HF:=aa (abi.out v W2 hn hb);obtain⟨tv,gv,Sy⟩:=hn.iface;subst Sy;clear hn hb))
            go_ret2
            exact HF.out
