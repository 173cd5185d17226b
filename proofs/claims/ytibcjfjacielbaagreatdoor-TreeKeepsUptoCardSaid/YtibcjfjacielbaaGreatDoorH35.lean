import Derived.Test.YtibcjfjacielbaaGreatDoorH28
import Derived.Test.YtibcjfjacielbaaGreatDoorH24
import Derived.Test.YtibcjfjacielbaaGreatDoorH31
import Derived.Test.YtibcjfjacielbaaGreatDoorH32
import Derived.Test.YtibcjfjacielbaaGreatDoorH33
import Derived.Test.YtibcjfjacielbaaGreatDoorH34
/- Part of the proof of YtibcjfjacielbaaGreatDoorCardH: TrZk TrZr TrZh TkN TsE TgR TrYb TsZ TgA TsF. -/
set_option maxRecDepth 100000
set_option maxHeartbeats 4000000
set_option linter.unusedVariables false
set_option linter.unusedSimpArgs false
namespace Go.Proofs.YtibcjfjacielbaaGreatDoor
open Go.RowKit
def RowsC (w:World) (v:Value) (rs:List PR):Prop:=RowsS 0 w v rs∧ ∃ao c,v= .slice ao rs.length c∧rs.length≤c
theorem RowsC.below {w w':World} {v:Value} {rs:List PR} (h:RowsC w v rs) (hb:Below w.heap.size w w'):RowsC w' v rs:=⟨h.1.below hb,h.2⟩
theorem RowsC.tail {w:World} {g o n c:Nat} {r:PR} {l:List PR} (h:RowsC w (.slice (some ⟨g,o,none⟩) n c) (r::l)):RowsC w (.slice (some ⟨g,o+17,none⟩) l.length (c-1)) l:=by
 obtain⟨⟨ao,c',hv,hc⟩,ao2,c2,hv2,hle⟩:=h;injection hv2 with e1 e2 e3
 subst e3;refine⟨⟨_,_,rfl,fun j hj=>?_⟩,_,_,rfl,by simp only[List.length_cons]at hle;omega⟩;obtain⟨g',o',he,hb,hg,vm,vo,vi,vl,h1,h2⟩:=hc (j+1) (by simp;omega);injection hv with e4 _ _
 rw[←e4]at he;cases he;refine⟨g,o+17,rfl,hb,hg,vm,vo,vi,vl,h1,fun k hk=>?_⟩;have:=h2 k hk;rw[show o+17+j*17+k=o+(j+1)*17+k by omega];exact this
theorem RowsC.none_ {w:World} {a:Option Addr} {c:Nat}:RowsC w (.slice a 0 c) []:=⟨⟨a,c,rfl,fun j h=>absurd h (by simp)⟩,a,c,rfl,Nat.zero_le _⟩
def BuiltPost (B:Nat) (w0 w:World) (d:Nat) (x y:List PR) (e:Ending) (w':World):Prop:=
 ∃nv s,e= .returned (.tuple #[nv,s])∧TreeAt B w' d nv (annot d x)∧RowsC w0 s y∧Below w.heap.size w w'
theorem rangesB_suffix: ∀(x y:List PR),rangesB (x++y)=true→rangesB y=true
 |[],_,h=>h
 |r::x,y,h=>by
  rw[List.cons_append,rangesB,Bool.and_eq_true]at h;exact rangesB_suffix x y h.2
theorem range_row {r:PR} (h:soundRow r=true) (h4:r.kind=4):r={zr 4 1 with dur:=r.dur}:=by
 obtain⟨hkb,_,hu⟩:=sound_parts h;obtain⟨kind,kids,op,text,ms,dur,step,off,tim,bool,given,on,mls,card,inc,without,labels⟩:=r;simp only at*
 subst h4;simp[unP,zr]at hu;simp[kidsB]at hkb;simp[zr,hu,hkb]
theorem sel_row {r:PR} (h:soundRow r=true) (h3:r.kind=3):r={zr 3 0 with text:=r.text,ms:=r.ms,off:=r.off,tim:=r.tim}:=by
 obtain⟨hkb,_,hu⟩:=sound_parts h;obtain⟨kind,kids,op,text,ms,dur,step,off,tim,bool,given,on,mls,card,inc,without,labels⟩:=r;simp only at*
 subst h3;simp[unP,zr]at hu;simp[kidsB]at hkb;simp[zr,hu,hkb]
theorem range_post {B gs d:Nat} {w0 w wc WM:World} {r q:PR} {y:List PR} {SV:Value} (hB:B≤w.heap.size) (hsr:soundRow r=true) (h4:r.kind=4) (hqs:soundRow q=true) (hq3:q.kind=3) (hrow:RowsC w0 SV y) (hb1:Below w.heap.size w wc)
  (hnd:NodeAt wc.drew.heap.size WM (.iface 93 (.pointer (some ⟨gs,0,none⟩))) {zr 3 0 with text:=q.text,ms:=q.ms,off:=q.off,tim:=q.tim} []) (hb:Below wc.drew.heap.size wc.drew WM):
  BuiltPost B w0 w d [r,q] y (.returned (.tuple #[.iface 170 (.pointer (some ⟨WM.heap.size,0,none⟩)),SV])) (WM.alloc (.cells #[.pointer (some ⟨gs,0,none⟩),.string r.dur] 172)):=by
 have hl1:=hb1.size;have hl2:wc.heap.size≤WM.heap.size:=hb.size;have hba:Below WM.heap.size WM (WM.alloc (.cells #[.pointer (some ⟨gs,0,none⟩),.string r.dur] 172)):=(Below.refl _ _).alloc (Nat.le_refl _) _;have hz:=Blk.new WM 172 #[.pointer (some ⟨gs,0,none⟩),.string r.dur];rw[←sel_row hqs hq3]at hnd;have hk:=TreeAt.mk (d+1) _ q [] (fun _=>[]) ((hnd.below hba).lo (b':=B) (by show B≤wc.heap.size;omega)) (fun i h=>absurd h (by simp));have hn:=NodeAt.range (b:=B) (w:=WM.alloc (.cells #[.pointer (some ⟨gs,0,none⟩),.string r.dur] 172)) WM.heap.size (by omega) hz.lt r.dur gs (hz.cell 0) (hz.cell 1);rw[←range_row hsr h4]at hn;have hT:=TreeAt.mk d _ r _ (fun _=>[(d+1,q)]) hn (fun i h=>by
  have h0:i=0:=by simpa using h
  subst h0;exact hk)
 have hA:=hT.annot;have e:(((d,r)::(List.range [Value.iface 93 (.pointer (some ⟨gs,0,none⟩))].length).flatMap fun _=>[(d+1,q)]).map (·.2):List PR)=[r,q]:=rfl;rw[e]at hA;rw[hA]at hT;exact⟨_,SV,rfl,hT,hrow,(hb1.drew.trans (hb.mono hl1)).trans (hba.mono (by omega))⟩
theorem slice_rows (a:Addr) (n k:Nat) (h:n+1≤k) (W:World):(Instr.slice 39 (.slice (some a) (n+1) k) (some (.int .i64 1)) none none).run Tryz.prog W= .ok (.slice (if k=1 then some a else some (a.add 17)) n (k-1)) W:=by
 have h1:(1:Int)≤(n:Int)+1:=by omega
 have h2:(n:Int)+1≤(k:Int):=by omega
 have hu:=Tryz.underlying39;have hs: ∀W,(sizeOf 58).run Tryz.prog W= .ok 17 W:=fun W=>by kernel_rfl
 unfold Instr.slice;simp[go_sem,run_underlying hu,h,h1,h2,hs]
theorem built_range {B:Nat} {w0 w:World} {r q:PR} {y:List PR} {d:Nat} {v:Value} (hB:B≤w.heap.size) (hw0:Below w0.heap.size w0 w) (hrows:RowsC w0 v (r::q::y)) (hsr:soundRow r=true) (h4:r.kind=4) (hq3:q.kind=3) (hqs:soundRow q=true) (hql:LenOK q) (hlen:y.length≤1099511627776):
  Calls Tryz.prog 65 #[v] w (BuiltPost B w0 w d [r,q] y):=by
 obtain⟨ao,c,rfl,hle⟩:=hrows.2;have hrc:=hrows;obtain⟨_,_,hv,hc⟩:=(hrows.below hw0).1;injection hv with e1 e2 e3
 subst e1 e3;obtain⟨g,o,rfl,_,hg,vm,vo,vi,vl,hls,hcs⟩:=hc 0 (by simp);obtain⟨g',o',he,_,_,um,uo,ui,ul,hlq,hcq⟩:=hc 1 (by simp);cases he;simp only[List.getElem_cons_zero,List.getElem_cons_succ,Nat.zero_mul,Nat.add_zero,Nat.one_mul]at hls hcs hlq hcq;obtain⟨⟨am1,cm1,rfl,_⟩,⟨ao1,co1,rfl,_⟩,⟨ai1,ci1,rfl,_⟩,⟨al1,cl1,rfl,_⟩⟩:=id hls;obtain⟨⟨am2,cm2,rfl,_⟩,⟨ao2,co2,rfl,_⟩,⟨ai2,ci2,rfl,_⟩,⟨al2,cl2,rfl,_⟩⟩:=id hlq;obtain⟨nm1,hnm1⟩: ∃n,n=r.ms.length:=⟨_,rfl⟩;obtain⟨no1,hno1⟩: ∃n,n=r.mls.length:=⟨_,rfl⟩;obtain⟨ni1,hni1⟩: ∃n,n=r.inc.length:=⟨_,rfl⟩;obtain⟨nl1,hnl1⟩: ∃n,n=r.labels.length:=⟨_,rfl⟩;obtain⟨nm2,hnm2⟩: ∃n,n=q.ms.length:=⟨_,rfl⟩;obtain⟨no2,hno2⟩: ∃n,n=q.mls.length:=⟨_,rfl⟩;obtain⟨ni2,hni2⟩: ∃n,n=q.inc.length:=⟨_,rfl⟩;obtain⟨nl2,hnl2⟩: ∃n,n=q.labels.length:=⟨_,rfl⟩;rw[←hnm1,←hno1,←hni1,←hnl1]at hls hcs;rw[←hnm2,←hno2,←hni2,←hnl2]at hlq hcq;have HR2:Hid (RowsC w0 (.slice (some ⟨g,o+17,none⟩) (q::y).length (c-1)) (q::y)):=Lib.hid hrc.tail;simp only[List.length_cons]at hle;obtain⟨n,hn⟩: ∃n,n=y.length:=⟨_,rfl⟩;have hLn:(r::q::y).length=n+1+1:=by rw[hn];simp
 rw[hLn];rw[←hn]at hle hlen;obtain⟨k,rfl⟩: ∃k,c=k+1:=⟨c-1,by omega⟩;have hkn:nk r=1:=by
  have h1:=(sound_parts hsr).1;rw[h4]at h1;simp[kidsB]at h1;unfold nk;omega
 have HMM:Hid (∀W,Below w.heap.size w W→Calls Tryz.prog 59 #[.agg #[.int .i64 q.kind,.int .i64 q.kids,.string q.op,.string q.text,.slice am2 nm2 cm2,.string q.dur,.string q.step,.string q.off,.string q.tim,.bool q.bool,.bool q.given,.bool q.on,.slice ao2 no2 co2,.int .i64 q.card,.slice ai2 ni2 ci2,.bool q.without,.slice al2 nl2 cl2]] W (SelPost W q)):=Lib.hid fun W hb=>tree_selector (r:=q) (hlq.1.below hb) hql.1
 have c0:w.cell? ⟨g,o,none⟩=some (.int .i64 r.kind):=hcs 0 (by omega);have c1:w.cell? ⟨g,o+1,none⟩=some (.int .i64 r.kids):=hcs 1 (by omega);have c2:w.cell? ⟨g,o+2,none⟩=some (.string r.op):=hcs 2 (by omega);have c3:w.cell? ⟨g,o+3,none⟩=some (.string r.text):=hcs 3 (by omega);have c4:w.cell? ⟨g,o+4,none⟩=some (.slice am1 nm1 cm1):=hcs 4 (by omega);have c5:w.cell? ⟨g,o+5,none⟩=some (.string r.dur):=hcs 5 (by omega);have c6:w.cell? ⟨g,o+6,none⟩=some (.string r.step):=hcs 6 (by omega);have c7:w.cell? ⟨g,o+7,none⟩=some (.string r.off):=hcs 7 (by omega);have c8:w.cell? ⟨g,o+8,none⟩=some (.string r.tim):=hcs 8 (by omega);have c9:w.cell? ⟨g,o+9,none⟩=some (.bool r.bool):=hcs 9 (by omega);have c10:w.cell? ⟨g,o+10,none⟩=some (.bool r.given):=hcs 10 (by omega);have c11:w.cell? ⟨g,o+11,none⟩=some (.bool r.on):=hcs 11 (by omega);have c12:w.cell? ⟨g,o+12,none⟩=some (.slice ao1 no1 co1):=hcs 12 (by omega);have c13:w.cell? ⟨g,o+13,none⟩=some (.int .i64 r.card):=hcs 13 (by omega);have c14:w.cell? ⟨g,o+14,none⟩=some (.slice ai1 ni1 ci1):=hcs 14 (by omega);have c15:w.cell? ⟨g,o+15,none⟩=some (.bool r.without):=hcs 15 (by omega);have c16:w.cell? ⟨g,o+16,none⟩=some (.slice al1 nl1 cl1):=hcs 16 (by omega);have M0:Hid (w.cell? ⟨g,o+17,none⟩=some (.int .i64 q.kind)):=Lib.hid (hcq 0 (by omega));have M1:Hid (w.cell? ⟨g,o+17+1,none⟩=some (.int .i64 q.kids)):=Lib.hid (hcq 1 (by omega));have M2:Hid (w.cell? ⟨g,o+17+2,none⟩=some (.string q.op)):=Lib.hid (hcq 2 (by omega));have M3:Hid (w.cell? ⟨g,o+17+3,none⟩=some (.string q.text)):=Lib.hid (hcq 3 (by omega));have M4:Hid (w.cell? ⟨g,o+17+4,none⟩=some (.slice am2 nm2 cm2)):=Lib.hid (hcq 4 (by omega));have M5:Hid (w.cell? ⟨g,o+17+5,none⟩=some (.string q.dur)):=Lib.hid (hcq 5 (by omega));have M6:Hid (w.cell? ⟨g,o+17+6,none⟩=some (.string q.step)):=Lib.hid (hcq 6 (by omega));have M7:Hid (w.cell? ⟨g,o+17+7,none⟩=some (.string q.off)):=Lib.hid (hcq 7 (by omega));have M8:Hid (w.cell? ⟨g,o+17+8,none⟩=some (.string q.tim)):=Lib.hid (hcq 8 (by omega));have M9:Hid (w.cell? ⟨g,o+17+9,none⟩=some (.bool q.bool)):=Lib.hid (hcq 9 (by omega));have M10:Hid (w.cell? ⟨g,o+17+10,none⟩=some (.bool q.given)):=Lib.hid (hcq 10 (by omega));have M11:Hid (w.cell? ⟨g,o+17+11,none⟩=some (.bool q.on)):=Lib.hid (hcq 11 (by omega));have M12:Hid (w.cell? ⟨g,o+17+12,none⟩=some (.slice ao2 no2 co2)):=Lib.hid (hcq 12 (by omega));have M13:Hid (w.cell? ⟨g,o+17+13,none⟩=some (.int .i64 q.card)):=Lib.hid (hcq 13 (by omega));have M14:Hid (w.cell? ⟨g,o+17+14,none⟩=some (.slice ai2 ni2 ci2)):=Lib.hid (hcq 14 (by omega));have M15:Hid (w.cell? ⟨g,o+17+15,none⟩=some (.bool q.without)):=Lib.hid (hcq 15 (by omega));have M16:Hid (w.cell? ⟨g,o+17+16,none⟩=some (.slice al2 nl2 cl2)):=Lib.hid (hcq 16 (by omega));have HN:=Lib.hid hn;have HKN:=Lib.hid hkn;have HH:=Lib.hid (And.intro hsr (And.intro hqs (And.intro hq3 (And.intro hw0 (And.intro hB hls)))));have p4:(r.kind==4)=true:=by simp[h4]
 have H4:=Lib.hid h4;have q0:((k:Int)+1=1)=False:=eq_false (by omega);have q00:(k+1=1)=False:=eq_false (by omega);have q000:(k=0)=False:=eq_false (by omega);clear hcs hc hrows hrc hsr hkn hnm1 hno1 hni1 hnl1 hnm2 hno2 hni2 hnl2 hlq hcq hls h4 hq3 hqs hql hLn hn hB hw0;go_enter Tryz.func65,Tryz.ntmps65;go_upto_region 2 with(refine wpList_store_blk rfl 58 (.tmp 4) (.tmp 9) rfl w.heap.size _ rfl rfl (Blk.new _ _ _) info_row rfl rfl ?_)
 intro W' hz hgr;go_upto_region 2 with(fail)
 have hb1:Below w.heap.size w W':=below_grow ((Below.refl w.heap.size w).alloc (Nat.le_refl _) _) hgr (by simp) (Nat.le_refl _);have HZ:=Lib.hid hz;have HB1:=Lib.hid hb1;clear hz hgr hb1 c0 c1 c2 c3 c4 c5 c6 c7 c8 c9 c10 c11 c12 c13 c14 c15 c16;go_cut [0]from 10 to 11 (fun t0 wx=> ∃oq,t0= .slice (some ⟨g,oq,none⟩) (n+1) k∧wx=W'∧Hid (oq=o+17))
 case first=>
  go_wp2_with fail;go_meet;exact⟨_,rfl,rfl,Lib.hid rfl⟩
 case rest=>
  obtain⟨oq,rfl,rfl,hoq⟩:=hcut;have z0:wc.cell? ⟨w.heap.size,0,none⟩=some (.int .i64 r.kind):=HZ.out.cell 0;have s1:=HZ.out.lt;have hgl:g<wc.heap.size:=Nat.lt_of_lt_of_le hg HB1.out.size;have z5:wc.cell? ⟨w.heap.size,5,none⟩=some (.string r.dur):=HZ.out.cell 5;have d5:wc.drew.cell? ⟨w.heap.size,5,none⟩=some (.string r.dur):=z5;have Z5:=Lib.hid z5;have n0:wc.cell? ⟨g,oq,none⟩=some (.int .i64 q.kind):=by rw[hoq.out];exact(HB1.out.cell (p:=⟨g,_,none⟩) hg).trans M0.out
  have m0:wc.drew.cell? ⟨g,oq,none⟩=some (.int .i64 q.kind):=n0;have N0:=Lib.hid n0;have n1:wc.cell? ⟨g,oq+1,none⟩=some (.int .i64 q.kids):=by rw[hoq.out];exact(HB1.out.cell (p:=⟨g,_,none⟩) hg).trans M1.out
  have m1:wc.drew.cell? ⟨g,oq+1,none⟩=some (.int .i64 q.kids):=n1;have N1:=Lib.hid n1;have n2:wc.cell? ⟨g,oq+2,none⟩=some (.string q.op):=by rw[hoq.out];exact(HB1.out.cell (p:=⟨g,_,none⟩) hg).trans M2.out
  have m2:wc.drew.cell? ⟨g,oq+2,none⟩=some (.string q.op):=n2;have N2:=Lib.hid n2;have n3:wc.cell? ⟨g,oq+3,none⟩=some (.string q.text):=by rw[hoq.out];exact(HB1.out.cell (p:=⟨g,_,none⟩) hg).trans M3.out
  have m3:wc.drew.cell? ⟨g,oq+3,none⟩=some (.string q.text):=n3;have N3:=Lib.hid n3;have n4:wc.cell? ⟨g,oq+4,none⟩=some (.slice am2 nm2 cm2):=by rw[hoq.out];exact(HB1.out.cell (p:=⟨g,_,none⟩) hg).trans M4.out
  have m4:wc.drew.cell? ⟨g,oq+4,none⟩=some (.slice am2 nm2 cm2):=n4;have N4:=Lib.hid n4;have n5:wc.cell? ⟨g,oq+5,none⟩=some (.string q.dur):=by rw[hoq.out];exact(HB1.out.cell (p:=⟨g,_,none⟩) hg).trans M5.out
  have m5:wc.drew.cell? ⟨g,oq+5,none⟩=some (.string q.dur):=n5;have N5:=Lib.hid n5;have n6:wc.cell? ⟨g,oq+6,none⟩=some (.string q.step):=by rw[hoq.out];exact(HB1.out.cell (p:=⟨g,_,none⟩) hg).trans M6.out
  have m6:wc.drew.cell? ⟨g,oq+6,none⟩=some (.string q.step):=n6;have N6:=Lib.hid n6;have n7:wc.cell? ⟨g,oq+7,none⟩=some (.string q.off):=by rw[hoq.out];exact(HB1.out.cell (p:=⟨g,_,none⟩) hg).trans M7.out
  have m7:wc.drew.cell? ⟨g,oq+7,none⟩=some (.string q.off):=n7;have N7:=Lib.hid n7;have n8:wc.cell? ⟨g,oq+8,none⟩=some (.string q.tim):=by rw[hoq.out];exact(HB1.out.cell (p:=⟨g,_,none⟩) hg).trans M8.out
  have m8:wc.drew.cell? ⟨g,oq+8,none⟩=some (.string q.tim):=n8;have N8:=Lib.hid n8;have n9:wc.cell? ⟨g,oq+9,none⟩=some (.bool q.bool):=by rw[hoq.out];exact(HB1.out.cell (p:=⟨g,_,none⟩) hg).trans M9.out
  have m9:wc.drew.cell? ⟨g,oq+9,none⟩=some (.bool q.bool):=n9;have N9:=Lib.hid n9;have n10:wc.cell? ⟨g,oq+10,none⟩=some (.bool q.given):=by rw[hoq.out];exact(HB1.out.cell (p:=⟨g,_,none⟩) hg).trans M10.out
  have m10:wc.drew.cell? ⟨g,oq+10,none⟩=some (.bool q.given):=n10;have N10:=Lib.hid n10;have n11:wc.cell? ⟨g,oq+11,none⟩=some (.bool q.on):=by rw[hoq.out];exact(HB1.out.cell (p:=⟨g,_,none⟩) hg).trans M11.out
  have m11:wc.drew.cell? ⟨g,oq+11,none⟩=some (.bool q.on):=n11;have N11:=Lib.hid n11;have n12:wc.cell? ⟨g,oq+12,none⟩=some (.slice ao2 no2 co2):=by rw[hoq.out];exact(HB1.out.cell (p:=⟨g,_,none⟩) hg).trans M12.out
  have m12:wc.drew.cell? ⟨g,oq+12,none⟩=some (.slice ao2 no2 co2):=n12;have N12:=Lib.hid n12;have n13:wc.cell? ⟨g,oq+13,none⟩=some (.int .i64 q.card):=by rw[hoq.out];exact(HB1.out.cell (p:=⟨g,_,none⟩) hg).trans M13.out
  have m13:wc.drew.cell? ⟨g,oq+13,none⟩=some (.int .i64 q.card):=n13;have N13:=Lib.hid n13;have n14:wc.cell? ⟨g,oq+14,none⟩=some (.slice ai2 ni2 ci2):=by rw[hoq.out];exact(HB1.out.cell (p:=⟨g,_,none⟩) hg).trans M14.out
  have m14:wc.drew.cell? ⟨g,oq+14,none⟩=some (.slice ai2 ni2 ci2):=n14;have N14:=Lib.hid n14;have n15:wc.cell? ⟨g,oq+15,none⟩=some (.bool q.without):=by rw[hoq.out];exact(HB1.out.cell (p:=⟨g,_,none⟩) hg).trans M15.out
  have m15:wc.drew.cell? ⟨g,oq+15,none⟩=some (.bool q.without):=n15;have N15:=Lib.hid n15;have n16:wc.cell? ⟨g,oq+16,none⟩=some (.slice al2 nl2 cl2):=by rw[hoq.out];exact(HB1.out.cell (p:=⟨g,_,none⟩) hg).trans M16.out
  have m16:wc.drew.cell? ⟨g,oq+16,none⟩=some (.slice al2 nl2 cl2):=n16;have N16:=Lib.hid n16;go_upto_region 4 with(fail)
  obtain⟨SV,hSV⟩: ∃SV,SV=Value.slice (if k=1 then some ⟨g,oq,none⟩else some ((⟨g,oq,none⟩:Addr).add 17)) n (k-1):=⟨_,rfl⟩;have sl: ∀W,(Instr.slice 39 (.slice (some ⟨g,oq,none⟩) (n+1) k) (some (.int .i64 1)) none none).run Tryz.prog W= .ok SV W:=fun W=>by rw[hSV];exact slice_rows _ n k (by omega) W
  have HSV:Hid (RowsC w0 SV y):=Lib.hid (by
   rw[hSV];by_cases e:k=1
   ·have h0:y=[]:=List.length_eq_zero_iff.1 (by rw[←HN.out];omega);subst h0;have:n=0:=by omega
    subst this;exact RowsC.none_
   ·rw[if_neg e,HN.out,hoq.out];have h1:=HR2.out;rw[Nat.add_sub_cancel]at h1;exact h1.tail)
  clear hSV;go_region_held3 (fun W=>W.cell? ⟨g,oq,none⟩=some (.int .i64 q.kind)∧W.cell? ⟨g,oq+1,none⟩=some (.int .i64 q.kids)∧W.cell? ⟨g,oq+2,none⟩=some (.string q.op)∧W.cell? ⟨g,oq+3,none⟩=some (.string q.text)∧W.cell? ⟨g,oq+4,none⟩=some (.slice am2 nm2 cm2)∧W.cell? ⟨g,oq+5,none⟩=some (.string q.dur)∧W.cell? ⟨g,oq+6,none⟩=some (.string q.step)∧W.cell? ⟨g,oq+7,none⟩=some (.string q.off)∧W.cell? ⟨g,oq+8,none⟩=some (.string q.tim)∧W.cell? ⟨g,oq+9,none⟩=some (.bool q.bool)∧W.cell? ⟨g,oq+10,none⟩=some (.bool q.given)∧W.cell? ⟨g,oq+11,none⟩=some (.bool q.on)∧W.cell? ⟨g,oq+12,none⟩=some (.slice ao2 no2 co2)∧W.cell? ⟨g,oq+13,none⟩=some (.int .i64 q.card)∧W.cell? ⟨g,oq+14,none⟩=some (.slice ai2 ni2 ci2)∧W.cell? ⟨g,oq+15,none⟩=some (.bool q.without)∧W.cell? ⟨g,oq+16,none⟩=some (.slice al2 nl2 cl2)∧W.cell? ⟨w.heap.size,5,none⟩=some (.string r.dur)) (first|go_keep) (first|(go_at_call 59;(with_reducible refine(HMM.out _ HB1.out.drew).mono ?_);rintro e WM ⟨gs,rfl,hnd,hb⟩;have p0:WM.cell? ⟨g,oq,none⟩=some (.int .i64 q.kind):=(hb.cell (p:=⟨g,_,none⟩) hgl).trans N0.out;have p1:WM.cell? ⟨g,oq+1,none⟩=some (.int .i64 q.kids):=(hb.cell (p:=⟨g,_,none⟩) hgl).trans N1.out;have p2:WM.cell? ⟨g,oq+2,none⟩=some (.string q.op):=(hb.cell (p:=⟨g,_,none⟩) hgl).trans N2.out;have p3:WM.cell? ⟨g,oq+3,none⟩=some (.string q.text):=(hb.cell (p:=⟨g,_,none⟩) hgl).trans N3.out;have p4:WM.cell? ⟨g,oq+4,none⟩=some (.slice am2 nm2 cm2):=(hb.cell (p:=⟨g,_,none⟩) hgl).trans N4.out;have p5:WM.cell? ⟨g,oq+5,none⟩=some (.string q.dur):=(hb.cell (p:=⟨g,_,none⟩) hgl).trans N5.out;have p6:WM.cell? ⟨g,oq+6,none⟩=some (.string q.step):=(hb.cell (p:=⟨g,_,none⟩) hgl).trans N6.out;have p7:WM.cell? ⟨g,oq+7,none⟩=some (.string q.off):=(hb.cell (p:=⟨g,_,none⟩) hgl).trans N7.out;have p8:WM.cell? ⟨g,oq+8,none⟩=some (.string q.tim):=(hb.cell (p:=⟨g,_,none⟩) hgl).trans N8.out;have p9:WM.cell? ⟨g,oq+9,none⟩=some (.bool q.bool):=(hb.cell (p:=⟨g,_,none⟩) hgl).trans N9.out;have p10:WM.cell? ⟨g,oq+10,none⟩=some (.bool q.given):=(hb.cell (p:=⟨g,_,none⟩) hgl).trans N10.out;have p11:WM.cell? ⟨g,oq+11,none⟩=some (.bool q.on):=(hb.cell (p:=⟨g,_,none⟩) hgl).trans N11.out;have p12:WM.cell? ⟨g,oq+12,none⟩=some (.slice ao2 no2 co2):=(hb.cell (p:=⟨g,_,none⟩) hgl).trans N12.out;have p13:WM.cell? ⟨g,oq+13,none⟩=some (.int .i64 q.card):=(hb.cell (p:=⟨g,_,none⟩) hgl).trans N13.out;have p14:WM.cell? ⟨g,oq+14,none⟩=some (.slice ai2 ni2 ci2):=(hb.cell (p:=⟨g,_,none⟩) hgl).trans N14.out;have p15:WM.cell? ⟨g,oq+15,none⟩=some (.bool q.without):=(hb.cell (p:=⟨g,_,none⟩) hgl).trans N15.out;have p16:WM.cell? ⟨g,oq+16,none⟩=some (.slice al2 nl2 cl2):=(hb.cell (p:=⟨g,_,none⟩) hgl).trans N16.out;have p5b:WM.cell? ⟨w.heap.size,5,none⟩=some (.string r.dur):=(hb.cell (p:=⟨w.heap.size,5,none⟩) s1).trans Z5.out;have t1:w.heap.size<WM.heap.size:=Nat.lt_of_lt_of_le s1 hb.size;have t2:g<WM.heap.size:=Nat.lt_of_lt_of_le hgl hb.size;have HND:=Lib.hid hnd;have HBM:=Lib.hid hb;clear hnd hb));have HF:Hid (BuiltPost B w0 w d [r,q] y (.returned (.tuple #[.iface 170 (.pointer (some ⟨WM.heap.size,0,none⟩)),SV])) (WM.alloc (.cells #[.pointer (some ⟨gs,0,none⟩),.string r.dur] 172))):=Lib.hid (range_post HH.out.2.2.2.2.1 HH.out.1 H4.out HH.out.2.1 HH.out.2.2.1 HSV.out HB1.out HND.out HBM.out);go_wp2_with fail;go_ret2;exact HF.out
def KidAt (B:Nat) (d:Nat) (t5:Value) (W:World) (v:Value) (L:List (Nat×PR)):Prop:= ∃lo w1,TreeAt lo w1 d v L∧B≤lo∧Agree lo w1 W∧Off lo w1 t5
theorem KidAt.tree {B d:Nat} {t5:Value} {W:World} {v:Value} {L:List (Nat×PR)} (h:KidAt B d t5 W v L):TreeAt B W d v L:=by
 obtain⟨lo,w1,h1,h2,h3,_⟩:=h;exact(h1.agree h3).lo h2
theorem KidAt.below {B d:Nat} {t5:Value} {W W':World} {v:Value} {L:List (Nat×PR)} (h:KidAt B d t5 W v L) (hb:Below W.heap.size W W'):KidAt B d t5 W' v L:=by
 obtain⟨lo,w1,h1,h2,h3,h4⟩:=h;exact⟨lo,w1,h1,h2,h3.below hb,h4⟩
theorem KidAt.push {B d:Nat} {t5 t6:Value} {W W':World} {v:Value} {L:List (Nat×PR)} (h:KidAt B d t5 W v L) (hg:W.grownBy W' t5.ownBlock) (ht:SameBlk t5 t6∨(t6.ownBlock=some (W.heap.size+1)∧W.grownBy W' none)):KidAt B d t6 W' v L:=by
 obtain⟨lo,w1,h1,h2,h3,h4⟩:=h;refine⟨lo,w1,h1,h2,h3.grow hg h4,fun q hq=>?_⟩;rcases ht with⟨g,n,m,cap,e1,e2⟩|⟨e1,_⟩
 ·subst e1 e2;exact h4 q (by simpa [Value.ownBlock]using hq)
 ·rw[e1]at hq;injection hq with hq
  have:=h3.1;omega
structure KidsI (B:Nat) (w0 w:World) (d:Nat) (x' y:List PR) (n i:Nat) (A:Array Value) (t0 t5:Value) (W:World):Prop where
 le:i≤n
 box:Blk W w.heap.size 58 A
 ks: ∃(ks:List Value) (segs:Nat→List (Nat×PR)) (c rem:List PR),ks.length=i∧x'=c++rem∧trees (n-i) rem=true∧((List.range i).flatMap segs).map (·.2)=c∧
  W.ownsRow w.heap.size 24 1 t5 i ks∧(∀j (h:j<ks.length),KidAt B (d+1) t5 W ks[j] (segs j))∧RowsC w0 t0 (rem++y)∧ ∀v∈ks,∃t x,v= .iface t x
 below:Below w.heap.size w W
theorem segs_ext {α:Type} (segs:Nat→List α) (i:Nat) (L:List α):((List.range (i+1)).flatMap fun j=>if j=i then L else segs j)=(List.range i).flatMap segs++L:=by
 rw[flat_range_succ];have h1: ∀n,n≤i→(List.range n).flatMap (fun j=>if j=i then L else segs j)=(List.range n).flatMap segs:=by
  intro n;induction n with
  |zero=>intro _;rfl
  |succ n ih=>
   intro h;rw[flat_range_succ,flat_range_succ,ih (by omega),if_neg (by omega)]
 rw[h1 i (Nat.le_refl _),if_pos rfl]
theorem exp_own {b:Nat} {w:World} {v:Value} {ks:List Value} (h:w.ownsRow b 24 1 v ks.length ks):ExpS b w v ks:=by
 rcases h.2 with⟨hv,hn⟩|⟨g,cap,cur,hv,hb,_⟩
 ·refine⟨none,0,by rw[hv,hn],fun j hj=>absurd hj (by omega)⟩
 ·subst hv;refine⟨_,_,rfl,fun j hj=>⟨g,0,rfl,hb,(World.ownsRow.lt h g rfl).2,?_⟩⟩;rw[Nat.zero_add,World.ownsRow.cellAt h j (by omega),List.getElem?_eq_getElem hj]
theorem info_exp:(Tryz.prog.info? 24).map (fun i=>(i.zero,i.size,i.bytes))=some (some .nilIface,1,16):=by kernel_rfl
theorem tree_built : ∀ (m B : Nat) (w0 : World) (x y : List PR) (w : World) (d : Nat) (v : Value), x.length ≤ m → B ≤ w.heap.size → Below w0.heap.size w0 w → RowsC w0 v (x ++ y) → trees 1 x = true → (∀ r ∈ x, soundRow r = true ∧ LenOK r) → rangesB (x ++ y) = true → (x ++ y).length ≤ 1099511627776 →
    Calls Tryz.prog 65 #[v] w (BuiltPost B w0 w d x y)
  | 0, B, w0, x, y, w, d, v, hm, _, _, _, ht, _, _, _ => by
    obtain⟨r,x',rfl,_⟩:=trees_pos ht
    simp at hm
  | m + 1, B, w0, x, y, w, d, v, hm, hB, hw0, hrows, ht, hsound, hrg, hlen => by
    obtain⟨r,x',rfl,ht'⟩:=trees_pos ht
    rw[Nat.add_zero]at ht'
    by_cases h40:r.kind=4
    · have hs0 := hsound r (by simp)
      have hnk1 : nk r = 1 := by
        have h1:=(sound_parts hs0.1).1
        rw[h40]at h1
        simp[kidsB]at h1
        unfold nk;omega
      rw[hnk1]at ht'
      obtain⟨q,x2,rfl,htq⟩:=trees_pos ht'
      have hq3 : q.kind = 3 := by
        rw[List.cons_append,rangesB,h40]at hrg
        simp[nextSel]at hrg
        exact hrg.1
      have hs1:=hsound q (by simp)
      have hqn : nk q = 0 := by
        have h1:=(sound_parts hs1.1).1
        rw[hq3]at h1
        simp[kidsB]at h1
        unfold nk;omega
      rw[hqn]at htq
      have hx2:x2=[]:=trees_zero.1 htq
      subst hx2
      exact built_range hB hw0 hrows hs0.1 h40 hq3 hs1.1 hs1.2 (by simp at hlen;omega)
    have H40:=Lib.hid h40
    clear h40
    obtain⟨ao,c,rfl,hle⟩:=hrows.2
    have hrc:=hrows
    obtain⟨_,_,hv,hc⟩:=(hrows.below hw0).1
    injection hv with e1 e2 e3
    subst e1 e3
    obtain⟨g,o,rfl,_,hg,vm,vo,vi,vl,hls,hcs⟩:=hc 0 (by simp)
    simp only[List.cons_append,List.getElem_cons_zero,Nat.zero_mul,Nat.add_zero]at hls hcs
    obtain⟨⟨am,cm,rfl,_⟩,⟨ao2,co,rfl,_⟩,⟨ai,ci,rfl,_⟩,⟨al,cl,rfl,_⟩⟩:=id hls
    obtain⟨nm,hnm⟩: ∃n,n=r.ms.length:=⟨_,rfl⟩
    obtain⟨no,hno⟩: ∃n,n=r.mls.length:=⟨_,rfl⟩
    obtain⟨ni,hni⟩: ∃n,n=r.inc.length:=⟨_,rfl⟩
    obtain⟨nl,hnl⟩: ∃n,n=r.labels.length:=⟨_,rfl⟩
    rw[←hnm,←hno,←hni,←hnl]at hls hcs
    obtain⟨hsr,hlr⟩:=hsound r (by simp)
    have hkn:=sound_nk hsr
    have IH:Hid (∀(B:Nat) (w0:World) (x y:List PR) (w:World) (d:Nat) (v:Value),x.length≤m→B≤w.heap.size→Below w0.heap.size w0 w→RowsC w0 v (x++y)→trees 1 x=true→(∀r∈x,soundRow r=true∧LenOK r)→rangesB (x++y)=true→(x++y).length≤1099511627776→Calls Tryz.prog 65 #[v] w (BuiltPost B w0 w d x y)):=Lib.hid (tree_built m)
    have c0:w.cell? ⟨g,o,none⟩=some (.int .i64 r.kind):=hcs 0 (by omega)
    have c1:w.cell? ⟨g,o+1,none⟩=some (.int .i64 r.kids):=hcs 1 (by omega)
    have c2:w.cell? ⟨g,o+2,none⟩=some (.string r.op):=hcs 2 (by omega)
    have c3:w.cell? ⟨g,o+3,none⟩=some (.string r.text):=hcs 3 (by omega)
    have c4:w.cell? ⟨g,o+4,none⟩=some (.slice am nm cm):=hcs 4 (by omega)
    have c5:w.cell? ⟨g,o+5,none⟩=some (.string r.dur):=hcs 5 (by omega)
    have c6:w.cell? ⟨g,o+6,none⟩=some (.string r.step):=hcs 6 (by omega)
    have c7:w.cell? ⟨g,o+7,none⟩=some (.string r.off):=hcs 7 (by omega)
    have c8:w.cell? ⟨g,o+8,none⟩=some (.string r.tim):=hcs 8 (by omega)
    have c9:w.cell? ⟨g,o+9,none⟩=some (.bool r.bool):=hcs 9 (by omega)
    have c10:w.cell? ⟨g,o+10,none⟩=some (.bool r.given):=hcs 10 (by omega)
    have c11:w.cell? ⟨g,o+11,none⟩=some (.bool r.on):=hcs 11 (by omega)
    have c12:w.cell? ⟨g,o+12,none⟩=some (.slice ao2 no co):=hcs 12 (by omega)
    have c13:w.cell? ⟨g,o+13,none⟩=some (.int .i64 r.card):=hcs 13 (by omega)
    have c14:w.cell? ⟨g,o+14,none⟩=some (.slice ai ni ci):=hcs 14 (by omega)
    have c15:w.cell? ⟨g,o+15,none⟩=some (.bool r.without):=hcs 15 (by omega)
    have c16:w.cell? ⟨g,o+16,none⟩=some (.slice al nl cl):=hcs 16 (by omega)
    have HLS:=Lib.hid hls
    have HRC:=Lib.hid hrc
    have HSO:=Lib.hid hsound
    have HKN:=Lib.hid hkn
    have HN4:=Lib.hid (And.intro hnm (And.intro hno (And.intro hni hnl)))
    clear hcs hc hrows hrc hsound hkn hnm hno hni hnl
    obtain⟨L,hL⟩: ∃L,L=(x'++y).length:=⟨_,rfl⟩
    have hLn:(r::x'++y).length=L+1:=by rw[hL];simp
    rw[hLn]at hlen hle HRC ⊢
    have HL:=Lib.hid hL
    clear hL hLn
    go_enter Tryz.func65,Tryz.ntmps65
    go_upto_region 2 with(refine wpList_store_blk rfl 58 (.tmp 4) (.tmp 9) rfl w.heap.size _ rfl rfl (Blk.new _ _ _) info_row rfl rfl ?_)
    intro W' hz hgr
    go_upto_region 2 with(fail)
    have hb1:Below w.heap.size w W':=below_grow ((Below.refl w.heap.size w).alloc (Nat.le_refl _) _) hgr (by simp) (Nat.le_refl _)
    have HZ:=Lib.hid hz
    have HB1:=Lib.hid hb1
    have HR1:=HRC
    clear hz hgr hb1 c0 c1 c2 c3 c4 c5 c6 c7 c8 c9 c10 c11 c12 c13 c14 c15 c16
    go_cut [0]from 10 to 11 (fun t0 wx=>wx=W'∧Hid (RowsC w0 t0 (x'++y)))
    case first =>
      by_cases hc1:c=1
      · subst hc1
        have HT : Hid (RowsC w0 (.slice (some ⟨g, o, none⟩) 0 0) (x' ++ y)) := Lib.hid (by
          have h0:x'++y=[]:=List.length_eq_zero_iff.1 (by rw[←HL.out];omega)
          rw[h0];exact RowsC.none_)
        obtain rfl:L=0:=by omega
        go_wp2_with fail
        go_meet
        exact⟨rfl,HT⟩
      · have HT : Hid (RowsC w0 (.slice (some ⟨g, o + 17, none⟩) L (c - 1)) (x' ++ y)) := Lib.hid (by
          have:=HR1.out.tail (l:=x'++y)
          rw[←HL.out]at this
          exact this)
        have q1:((c:Int)=1)=False:=eq_false (by omega)
        have q2:(c=1)=False:=eq_false hc1
        go_wp2_with fail
        go_meet
        exact⟨rfl,HT⟩
    case rest =>
      obtain⟨rfl,hT0⟩:=hcut
      obtain⟨a0,k0,hv0,_⟩:=hT0.out.2
      subst hv0
      rw[←HL.out]at hT0 ⊢
      have z0:wc.cell? ⟨w.heap.size,0,none⟩=some (.int .i64 r.kind):=HZ.out.cell 0
      have z1:wc.cell? ⟨w.heap.size,1,none⟩=some (.int .i64 (nk r:Int)):=(HZ.out.cell 1).trans (by rw[←HKN.out];rfl)
      have hnkl : nk r ≤ 1099511627776 := by
        have h1:=trees_le x' (nk r) ht'
        have h2:=HL.out
        rw[List.length_append]at h2
        omega
      have HTR:=Lib.hid ht'
      have HRG:=Lib.hid hrg
      have HLL:=Lib.hid hls
      have HM:=Lib.hid (show x'.length≤m by simp at hm;omega)
      clear ht ht' hrg hls hm
      by_cases h4:r.kind=4
      · exact absurd h4 H40.out
      · have q4 : (r.kind == 4) = false := by simpa using h4
        have H4:=Lib.hid h4
        clear h4
        go_wp2_with fail
        go_loopw [0,5,28] (fun t0 t5 t28 wx=> ∃i:Nat,t28= .int .i64 (i:Int)∧Hid (KidsI B w0 w d x' y (nk r) i (rowA r (.slice am nm cm) (.slice ao2 no co) (.slice ai ni ci) (.slice al nl cl)) t0 t5 wx)) (fun _ _ t28 _=>nk r-(intOf t28).toNat)
        case atStart=>exact⟨0,rfl,Lib.hid ⟨Nat.zero_le _,HZ.out,⟨[],fun _=>[],[],x',rfl,rfl,HTR.out,rfl,World.ownsRow_nil _ _ _ _,(fun j h=>absurd h (by simp)),hT0.out,(fun v h=>by cases h)⟩,HB1.out⟩⟩
        case round =>
          obtain⟨i,rfl,hI⟩:=hrel
          obtain⟨ks,segs,cc,rem,hkl,hxc,htr,hmap,hown,htree,hrows,hif⟩:=hI.out.ks
          obtain⟨a6,c6,hv6,hle6⟩:=hrows.2
          subst hv6
          obtain⟨n6,hn6⟩: ∃n,n=(rem++y).length:=⟨_,rfl⟩
          rw[←hn6]at hrows hle6 hI ⊢
          have HN6:=Lib.hid hn6
          clear hn6
          by_cases hlt:i<nk r
          · have p1 : ((i : Int) < (nk r : Int)) = True := eq_true (by omega)
            obtain⟨a,rem2,hra,hta,htb⟩:=trees_split rem 1 (nk r-i-1) (by rw[show 1+(nk r-i-1)=nk r-i by omega];exact htr)
            have hsub: ∀q∈a,q∈x':=fun q hq=>by rw[hxc,hra];simp[hq]
            have hal : a.length ≤ m := by
              have h1:=HM.out
              rw[hxc,hra]at h1
              simp at h1;omega
            have hll : (a ++ (rem2 ++ y)).length ≤ 1099511627776 := by
              have h2:=HL.out
              rw[hxc,hra]at h2
              simp at h2 ⊢;omega
            have hrga : rangesB (a ++ (rem2 ++ y)) = true := by
              refine rangesB_suffix (r::cc) _ ?_
              have h3:=HRG.out
              rw[hxc,hra]at h3
              simpa [List.append_assoc]using h3
            have hrows2:RowsC w0 (.slice a6 n6 c6) (a++(rem2++y)):=by rw[←List.append_assoc,←hra];exact hrows
            have HCALL:=Lib.hid (IH.out wr.heap.size w0 a (rem2++y) wr (d+1) _ hal (Nat.le_refl _) (hw0.trans (hI.out.below.mono hw0.size)) hrows2 hta (fun q hq=>HSO.out q (List.mem_cons_of_mem _ (hsub q hq))) hrga hll)
            have hBw:B≤wr.heap.size:=Nat.le_trans hB hI.out.below.size
            have HK:=Lib.hid (And.intro hkl (And.intro hxc (And.intro hra (And.intro htb (And.intro hmap (And.intro hta hif))))))
            have HTREE:=Lib.hid htree
            have HOWN:=Lib.hid hown
            have hil:i≤1099511627776:=by omega
            clear hkl hxc htr hmap hown htree hrows hif hra hta htb hsub hal hll hrga hrows2 hle6
            go_wp2_with fail
            (with_reducible refine HCALL.out.mono ?_)
            rintro e W2 ⟨nv,sv,rfl,htn,hrn,hb2⟩
            obtain⟨tt,gg,rfl⟩:=htn.iface
            obtain⟨a7,c7,hv7,_⟩:=hrn.2
            subst hv7
            obtain⟨n7,hn7⟩: ∃n,n=(rem2++y).length:=⟨_,rfl⟩
            rw[←hn7]at hrn ⊢
            have HN7:=Lib.hid hn7
            clear hn7
            have HOWN2:Hid (W2.ownsRow w.heap.size 24 1 u5 i ks):=Lib.hid (own_belowE HOWN.out hb2)
            have hks:ks.length=i:=HK.out.1
            have HTN:=Lib.hid htn
            have HRN:=Lib.hid hrn
            have HB2:=Lib.hid hb2
            clear htn hrn hb2
            go_wp2_with ((at_builtin;refine wpList_push2 rfl (.tmp 35) (.tmp 37) 160 rfl w.heap.size 24 .nilIface 1 16 info_exp Tryz.underlying160 rfl (by decide) _ _ _ rfl HOWN2.out [.iface tt (.pointer (some ⟨gg,0,none⟩))] rfl rfl (one1 rfl) (by unfold maxLen;omega) (by omega) (Nat.le_trans hI.out.below.size HB2.out.size) ?_))
            intro v3 W3 hown3 hgr3 htwo
            have HNEW : Hid (KidsI B w0 w d x' y (nk r) (i + 1) (rowA r (.slice am nm cm) (.slice ao2 no co) (.slice ai ni ci) (.slice al nl cl)) (.slice a7 n7 c7) v3 W3) := Lib.hid (by
              obtain⟨_,hxc,hra,htb,hmap,hta,hif⟩:=HK.out
              refine⟨hlt,(hI.out.box.below HB2.out hI.out.box.lt).grown hgr3 (own_blk_ne HOWN2.out (hI.out.box.below HB2.out hI.out.box.lt) (by decide)).symm,⟨ks++[.iface tt (.pointer (some ⟨gg,0,none⟩))],fun j=>if j=i then annot (d+1) a else segs j,cc++a,rem2,by simp[hks],by rw[hxc,hra,List.append_assoc],by rw[show nk r-(i+1)=nk r-i-1 by omega];exact htb,?_,hown3,?_,by rw[←HN7.out]at*;exact HRN.out,?_⟩,?_⟩
              · rw [segs_ext, List.map_append, annot_rows hta, hmap]
              · intro j hj
                show KidAt B (d+1) v3 W3 _ (if j=i then annot (d+1) a else segs j)
                by_cases hji:j=i
                · subst hji
                  rw[if_pos rfl,List.getElem_append_right (by omega)]
                  simp only[hks,Nat.sub_self,List.getElem_cons_zero]
                  refine KidAt.push (t5:=u5) ⟨wr.heap.size,W2,HTN.out,hBw,Agree.refl _ _,fun q hq=>.inl (HOWN.out.lt q hq).2⟩ hgr3 htwo
                · have hj2 : j < ks.length := by simp at hj; omega
                  rw[if_neg hji,List.getElem_append_left hj2]
                  exact((HTREE.out j hj2).below HB2.out).push hgr3 htwo
              · intro q hq
                rcases List.mem_append.1 hq with hq|hq
                · exact hif q hq
                · rw [List.mem_singleton.1 hq]; exact ⟨_, _, rfl⟩
              · exact (hI.out.below.trans (HB2.out.mono hI.out.below.size)).grown hgr3 (Nat.le_trans hI.out.below.size HB2.out.size) (fun q hq => (HOWN2.out.lt q hq).1))
            obtain⟨a8,m8,c8,hv8⟩:=own_sl hown3
            subst hv8
            clear hown3 hgr3 htwo hks
            go_wp2_with fail
            exact⟨⟨i+1,by go_num,HNEW⟩,by simp[intOf];omega⟩
          · have hie : i = nk r := by have := hI.out.le; omega
            have p1:((i:Int)<(nk r:Int))=False:=eq_false (by omega)
            have hrem:rem=[]:=trees_zero.1 (by rw[show nk r-i=0 by omega]at htr;exact htr)
            have hBw:B≤wr.heap.size:=Nat.le_trans hB hI.out.below.size
            have hexp:ExpS B wr u5 ks:=exp_own (by rw[hkl];exact own_mono hown hB)
            have HND:=Lib.hid (tree_node hBw (HLL.out.below hI.out.below) hlr hsr H4.out hexp (by rw[hkl,hie]) hif)
            have HBX:=Lib.hid hI.out.box
            have HFIN : Hid (∀ v W2, NodeAt B W2 v r ks → Below wr.heap.size wr W2 → BuiltPost B w0 w d (r :: x') y (.returned (.tuple #[v, .slice a6 n6 c6])) W2) := Lib.hid fun v W2 hn hb => by
              have hT:=TreeAt.mk d v r ks segs hn fun j hj=>((htree j hj).tree).later hb
              have hm2:((List.range ks.length).flatMap segs).map (·.2)=x':=by rw[hkl,hmap,hxc,hrem,List.append_nil]
              have hA:=hT.annot
              rw[List.map_cons,hm2]at hA
              rw[hA]at hT
              exact⟨v,_,rfl,hT,by rw[hrem]at hrows;exact hrows,hI.out.below.trans (hb.mono hI.out.below.size)⟩
            obtain⟨a8,m8,c8,hv8⟩:=own_sl hown
            subst hv8
            clear hkl hxc htr hmap hown htree hrows hif hexp hrem hie hle6
            go_wp2_with (first|(refine wpList_load_blk rfl 58 (.tmp 4) rfl w.heap.size rfl HBX.out Tryz.underlying58 info_row ?_)|(go_at_call 123;refine HND.out.mono ?_;rintro e W2 ⟨v,rfl,hn,hb⟩;have HF:=Lib.hid (HFIN.out v W2 hn hb);obtain⟨tv,gv,hvv⟩:=hn.iface;subst hvv;clear hn hb))
            go_ret2
            exact HF.out
def MapPost (w:World) (d:Nat) (L:List (Nat×PR)) (e:Ending) (w':World):Prop:=
 ∃v L',e= .returned v∧TreeAt w.heap.size w' d v L'∧L'.length=L.length∧Below w.heap.size w w'
structure KM (w w2:World) (d:Nat) (segs:Nat→List (Nat×PR)) (i:Nat) (t7:Value) (W:World):Prop where
 ks: ∃(ks:List Value) (sg:Nat→List (Nat×PR)),ks.length=i∧W.ownsRow w2.heap.size 24 1 t7 i ks∧(∀j (h:j<ks.length),KidAt w.heap.size (d+1) t7 W ks[j] (sg j))∧(∀j,j<i→(sg j).length=(segs j).length)∧ ∀v∈ks,∃t x,v= .iface t x
 below:Below w2.heap.size w2 W
theorem flat_same {α β:Type} (f:Nat→List α) (g:Nat→List β): ∀n,(∀j,j<n→(f j).length=(g j).length)→((List.range n).flatMap f).length=((List.range n).flatMap g).length
 |0,_=>rfl
 |n+1,h=>by rw[flat_range_succ,flat_range_succ,List.length_append,List.length_append,flat_same f g n fun j hj=>h j (by omega),h n (by omega)]
theorem km_push {w w2 wr W2 W3:World} {d i:Nat} {segs:Nat→List (Nat×PR)} {t7 t8 nv:Value} {L':List (Nat×PR)} (h:KM w w2 d segs i t7 wr) (hw:Below w.heap.size w w2) (ht:TreeAt wr.heap.size W2 (d+1) nv L') (hl:L'.length=(segs i).length) (hb2:Below wr.heap.size wr W2) {ks:List Value} {sg:Nat→List (Nat×PR)} (hk:ks.length=i)
  (ho:wr.ownsRow w2.heap.size 24 1 t7 i ks) (hkid: ∀j (h:j<ks.length),KidAt w.heap.size (d+1) t7 wr ks[j] (sg j)) (hsl: ∀j,j<i→(sg j).length=(segs j).length) (hif: ∀v∈ks,∃t x,v= .iface t x)
  (r1:W3.ownsRow w2.heap.size 24 1 t8 (i+1) (ks++[nv])) (r2:W2.grownBy W3 t7.ownBlock) (r3:SameBlk t7 t8∨(t8.ownBlock=some (W2.heap.size+1)∧W2.grownBy W3 none)):KM w w2 d segs (i+1) t8 W3:=by
 have hwr:w.heap.size≤wr.heap.size:=Nat.le_trans hw.size h.below.size;refine⟨⟨ks++[nv],fun j=>if j=i then L' else sg j,by simp[hk],r1,?_,?_,?_⟩,?_⟩
 ·intro j hj;show KidAt w.heap.size (d+1) t8 W3 _ (if j=i then L' else sg j);by_cases hji:j=i
  ·subst hji;rw[if_pos rfl,List.getElem_append_right (by omega)];simp only[hk,Nat.sub_self,List.getElem_cons_zero];exact KidAt.push (t5:=t7) ⟨wr.heap.size,W2,ht,hwr,Agree.refl _ _,fun q hq=>.inl (ho.lt q hq).2⟩ r2 r3
  ·have hj2:j<ks.length:=by simp at hj;omega
   rw[if_neg hji,List.getElem_append_left hj2];exact((hkid j hj2).below hb2).push r2 r3
 ·intro j hj;show (if j=i then L' else sg j).length=_;by_cases hji:j=i
  ·subst hji;rw[if_pos rfl];exact hl
  ·rw[if_neg hji];exact hsl j (by omega)
 ·intro q hq;rcases List.mem_append.1 hq with hq|hq
  ·exact hif q hq
  ·rw[List.mem_singleton.1 hq];obtain⟨t,g,e⟩:=ht.iface;exact⟨_,_,e⟩
 ·exact(h.below.trans (hb2.mono h.below.size)).grown r2 (Nat.le_trans h.below.size hb2.size) (fun q hq=>((own_belowE ho hb2).lt q hq).1)
theorem node_range {b g:Nat} {w:World} {r:PR} {ks:List Value} (h:NodeAt b w (.iface 170 (.pointer (some ⟨g,0,none⟩))) r ks): ∃p,b≤g∧g<w.heap.size∧ks=[.iface 93 (.pointer (some ⟨p,0,none⟩))]∧w.cell? ⟨g,0,none⟩=some (.pointer (some ⟨p,0,none⟩))∧w.cell? ⟨g,1,none⟩=some (.string r.dur):=by
 generalize hv:Value.iface 170 (.pointer (some ⟨g,0,none⟩))=v at h;cases h with
 |range g' hb hg d p c0 c1=>
  simp only[Value.iface.injEq,Value.pointer.injEq,Option.some.injEq,Addr.mk.injEq,and_true,true_and]at hv;subst hv;exact⟨p,hb,hg,rfl,c0,c1⟩
 |_=>exact absurd hv (by simp)
theorem node_kinds {b:Nat} {w:World} {v:Value} {r:PR} {ks:List Value} (h:NodeAt b w v r ks):(ks=[]∧ ∃g,v= .iface 93 (.pointer (some ⟨g,0,none⟩)))∨(r.kind=4∧ ∃g,v= .iface 170 (.pointer (some ⟨g,0,none⟩)))∨(r.kind≠4∧ ∃t g,v= .iface t (.pointer (some ⟨g,0,none⟩))∧t≠93∧t≠170):=by
 cases h with
 |selector g=>exact .inl ⟨rfl,g,rfl⟩
 |range g=>exact .inr (.inl ⟨rfl,g,rfl⟩)
 |_=>exact .inr (.inr ⟨by simp[zr],_,_,rfl,by decide,by decide⟩)
theorem mapped_sel {T:Nat→World→Prop} (hT:NumT (fun _=>True) T) (hS:SoundC T) {b g d:Nat} {w:World} {r:PR} (hn:NodeAt b w (.iface 93 (.pointer (some ⟨g,0,none⟩))) r []) (hl:LenOK r) (hTw:T w.heap.size w) {L:List (Nat×PR)} (hL:L.length=1):
  Calls Tryz.prog 77 #[.iface 93 (.pointer (some ⟨g,0,none⟩)),.func (.func 36) #[] #[]] w (MapPost w d L):=by
 have a1:=asSelector;have HC:=Lib.hid (tree_turned hT hS hn hl hTw);clear hn hl hTw;go_enter Tryz.func77,Tryz.ntmps77;go_wp2_with fail;refine HC.out.mono ?_;rintro e w2 ⟨g2,r2,rfl,hn,hb⟩;have HF:Hid (MapPost w d L (.returned (.iface 93 (.pointer (some ⟨g2,0,none⟩)))) w2):=Lib.hid ⟨_,[(d,r2)],rfl,TreeAt.mk d _ r2 [] (fun _=>[]) hn (fun i hi=>by simp at hi),by rw[hL];rfl,hb⟩;clear hn hb;go_wp2_with fail;go_ret;exact HF.out
theorem range_fin {w wO:World} {d gs:Nat} {dur:ByteArray} {r2:PR} {L:List (Nat×PR)} (hL:L.length=2) (hb:Below w.heap.size w wO) (hn:NodeAt w.heap.size wO (.iface 93 (.pointer (some ⟨gs,0,none⟩))) r2 []):
  MapPost w d L (.returned (.iface 170 (.pointer (some ⟨wO.heap.size,0,none⟩)))) (wO.alloc (.cells #[.pointer (some ⟨gs,0,none⟩),.string dur] 172)):=by
 have hb2:Below wO.heap.size wO (wO.alloc (.cells #[.pointer (some ⟨gs,0,none⟩),.string dur] 172)):=(Below.refl _ _).alloc (Nat.le_refl _) _;have hz:=Blk.new wO 172 #[.pointer (some ⟨gs,0,none⟩),.string dur];refine⟨_,_,rfl,TreeAt.mk d _ _ _ (fun _=>[(d+1,r2)]) (.range _ hb.size hz.lt dur gs (hz.cell 0) (hz.cell 1)) (fun i hi=>?_),by rw[hL];rfl,hb.trans (hb2.mono hb.size)⟩;have h0:i=0:=by simpa using hi
 subst h0;exact TreeAt.mk (d+1) _ r2 [] (fun _=>[]) (hn.below hb2) fun i hi=>by simp at hi
theorem mapped_range {T:Nat→World→Prop} (hT:NumT (fun _=>True) T) (hS:SoundC T) {b2 g p d:Nat} {w:World} {dur:ByteArray} {r2:PR} (hg:g<w.heap.size) (h0:w.cell? ⟨g,0,none⟩=some (.pointer (some ⟨p,0,none⟩))) (h1:w.cell? ⟨g,1,none⟩=some (.string dur))
  (hn:NodeAt b2 w (.iface 93 (.pointer (some ⟨p,0,none⟩))) r2 []) (hl:LenOK r2) (hTw:T w.heap.size w) {L:List (Nat×PR)} (hL:L.length=2):
  Calls Tryz.prog 77 #[.iface 170 (.pointer (some ⟨g,0,none⟩)),.func (.func 36) #[] #[]] w (MapPost w d L):=by
 have a1:=asSelector;have a2:=asRange;have HC:Hid (∀W,Below w.heap.size w W→Calls Tryz.prog 128 #[.pointer (some ⟨p,0,none⟩),.func (.func 36) #[] #[]] W (TurnPost W)):=Lib.hid fun W hb=>tree_turned hT hS (hn.below hb) hl (hT.mono (hT.keep hTw hb) hb.size)
 have c0:w.drew.cell? ⟨g,0,none⟩=some (.pointer (some ⟨p,0,none⟩)):=h0;have c1:w.drew.cell? ⟨g,1,none⟩=some (.string dur):=h1;have HL:=Lib.hid hL;clear hn hl hTw h0 h1 hL;go_enter Tryz.func77,Tryz.ntmps77;go_upto_region 7 with(fail)
 go_region_with (first|(go_at_call 128;(with_reducible refine(HC.out _ (Below.refl _ _).drew).mono ?_);rintro e wO ⟨gs,r3,rfl,hn3,hb3⟩;have q0:wO.cell? ⟨g,0,none⟩=some (.pointer (some ⟨p,0,none⟩)):=(hb3.cell (p:=⟨g,0,none⟩) hg).trans c0;have q1:wO.cell? ⟨g,1,none⟩=some (.string dur):=(hb3.cell (p:=⟨g,1,none⟩) hg).trans c1;have HF:=Lib.hid (range_fin (d:=d) (dur:=dur) HL.out ((Below.refl _ w).drew.trans hb3) hn3);clear hn3 hb3))
 all_goals
  go_wp2_with fail;go_ret;exact HF.out
theorem tree_mapped {T:Nat→World→Prop} (hT:NumT (fun _=>True) T) (hS:SoundC T) {b:Nat} {w0:World} {d:Nat} {v:Value} {L:List (Nat×PR)} (ht:TreeAt b w0 d v L):
  (∀x∈L,soundRow x.2=true∧LenOK x.2)→L.length≤1099511627776→ ∀W,Below w0.heap.size w0 W→T W.heap.size W→Calls Tryz.prog 77 #[v,.func (.func 36) #[] #[]] W (MapPost W d L):=by
 induction ht with
 |mk d v r ks segs h0 hk ih=>
  intro hR hLn w hw hTw;have hRr:=hR (d,r) (by simp);rcases node_kinds h0 with⟨rfl,g,rfl⟩|⟨h4,g,rfl⟩|⟨h4,t,g,rfl,hn1,hn2⟩
  ·exact mapped_sel hT hS (h0.below hw) hRr.2 hTw (by simp)
  ·obtain⟨p,hb,hg,rfl,c0,c1⟩:=node_range (h0.below hw);have hkid:=hk 0 (by simp);simp only[List.getElem_cons_zero]at hkid;have hR2:=fun x hx=>hR x (List.mem_cons_of_mem _ (List.mem_flatMap.2 ⟨0,by simp,hx⟩))
   generalize hs0:segs 0=S0 at hkid hR2;cases hkid with
   |mk _ _ r2 ks2 sg2 hn2 hk2=>
    rcases node_kinds hn2 with⟨rfl,_⟩|⟨_,_,e⟩|⟨_,_,_,e,e2,_⟩
    ·exact mapped_range hT hS hg c0 c1 (hn2.below hw) (hR2 (d+1,r2) (by simp)).2 hTw (by simp[hs0])
    ·simp at e
    ·injection e with e _;exact absurd e.symm e2
  ·have IH:Hid (∀i (hi:i<ks.length) W,Below w0.heap.size w0 W→T W.heap.size W→Calls Tryz.prog 77 #[ks[i],.func (.func 36) #[] #[]] W (MapPost W (d+1) (segs i))):=Lib.hid fun i hi W hb hTW=>ih i hi (fun x hx=>hR x (List.mem_cons_of_mem _ (List.mem_flatMap.2 ⟨i,List.mem_range.2 hi,hx⟩))) (by have:=flat_range_le segs hi;simp only[List.length_cons]at hLn;omega) W hb hTW
   have hks:ks.length≤1099511627776:=by
    have:=flat_range_ge segs fun i hi=>(hk i hi).one
    simp only[List.length_cons]at hLn;omega
   have HT:Hid (∀W,Below w.heap.size w W→T W.heap.size W):=Lib.hid fun W h=>hT.mono (hT.keep hTw h) h.size
   have H0:=Lib.hid h0;have HW:=Lib.hid hw;have HRR:=Lib.hid hRr;have H4:=Lib.hid h4;have a1:=asSelector;have a2:=asRange;have q1:(t=93)=False:=eq_false hn1;have q2:(t=170)=False:=eq_false hn2;clear h0 hk ih hR hw hTw hRr h4 hn1 hn2 hLn;go_enter Tryz.func77,Tryz.ntmps77;go_wp2_with fail;refine(tree_kidsOf H0.out HW.out).mono ?_;rintro e w2 ⟨s,rfl,hs,hb2,_⟩;obtain⟨ao,c,rfl,hcells⟩:=hs;have HS:=Lib.hid hcells;have HB2:=Lib.hid hb2;clear hcells hb2;go_wp2_with fail;go_loopw [7,37] (fun t7 t37 W=> ∃i:Nat,t37= .int .i64 (i:Int)∧Hid (i≤ks.length)∧Hid (KM w w2 d segs i t7 W)) (fun _ t37 _=>ks.length-(intOf t37).toNat)
   case atStart=>exact⟨0,rfl,Lib.hid (Nat.zero_le _),Lib.hid ⟨⟨[],fun _=>[],rfl,World.ownsRow_nil _ _ _ _,(fun j h=>absurd h (by simp)),(fun j h=>absurd h (Nat.not_lt_zero _)),(fun v h=>by cases h)⟩,Below.refl _ _⟩⟩
   case round=>
    obtain⟨i,rfl,hi,hI⟩:=hrel;obtain⟨ks',sg,hkl,hown,hkid,hsl,hif⟩:=hI.out.ks;obtain⟨a7,n7,k7,rfl⟩:=own_sl hown;have HBR:Hid (Below w.heap.size w wr):=Lib.hid (HB2.out.trans (hI.out.below.mono HB2.out.size));by_cases hlt:i<ks.length
    ·have p1:((i:Int)<(ks.length:Int))=True:=eq_true (by omega);obtain⟨gk,ok,rfl,_,hgk,hck⟩:=HS.out i hlt;have hck3:wr.cell? ⟨gk,ok+i,none⟩=some ks[i]:=(hI.out.below.cell (p:=⟨gk,ok+i,none⟩) hgk).trans hck;have HCALL:=Lib.hid (IH.out i hlt wr (HW.out.trans (HBR.out.mono HW.out.size)) (HT.out _ HBR.out));have HK:=Lib.hid (And.intro hkl (And.intro hown (And.intro hkid (And.intro hsl hif))));have HSZ:Hid (w2.heap.size≤wr.heap.size):=Lib.hid hI.out.below.size;clear hck hkl hown hkid hsl hif;go_wp2_with fail
     (with_reducible refine HCALL.out.mono ?_)
     rintro e W2 ⟨nv,L',rfl,htn,hln,hb2⟩;obtain⟨tt,gg,rfl⟩:=htn.iface;have HTN:=Lib.hid htn;have HLN:=Lib.hid hln;have HB3:=Lib.hid hb2;have HOWN2:Hid (W2.ownsRow w2.heap.size 24 1 (.slice a7 n7 k7) i ks'):=Lib.hid (own_belowE HK.out.2.1 hb2);clear htn hln hb2;go_wp2_with ((at_builtin;refine wpList_push2 rfl (.tmp 41) (.tmp 45) 160 rfl w2.heap.size 24 .nilIface 1 16 info_exp Tryz.underlying160 rfl (by decide) _ _ _ rfl HOWN2.out [.iface tt (.pointer (some ⟨gg,0,none⟩))] rfl rfl (one1 rfl) (by unfold maxLen;omega) (by omega) (Nat.le_trans HSZ.out HB3.out.size) ?_));intro v3 W3 r1 r2 r3;have HN:=Lib.hid (km_push hI.out HB2.out HTN.out HLN.out HB3.out HK.out.1 HK.out.2.1 HK.out.2.2.1 HK.out.2.2.2.1 HK.out.2.2.2.2 r1 r2 r3);obtain⟨a8,n8,k8,rfl⟩:=own_sl r1;clear r1 r2 r3;go_wp2_with fail;go_roundw
     case rel=>exact⟨i+1,by go_num,Lib.hid hlt,HN⟩
     case measure=>simp[intOf];omega
    ·have p1:((i:Int)<(ks.length:Int))=False:=eq_false (by omega);have hie:i=ks.length:=by have:=hi.out;omega
     have hB:w.heap.size≤wr.heap.size:=HBR.out.size;have hexp:ExpS w.heap.size wr (.slice a7 n7 k7) ks':=exp_own (by rw[hkl];exact own_mono hown HB2.out.size);have HEXP:=Lib.hid (And.intro hkl (And.intro hexp (And.intro hif (And.intro hkid hsl))));have HROW:=Lib.hid (tree_rowOf (H0.out.below (HW.out.trans (HBR.out.mono HW.out.size))) HRR.out.2);clear hkl hown hkid hsl hif hexp;go_wp2_with fail;refine HROW.out.mono ?_;rintro e W4 ⟨vm,vo,vi,vl,rfl,ho,hb4⟩;have hex4:ExpS w.heap.size W4 (.slice a7 n7 k7) ks':=HEXP.out.2.1.below hb4;have HND:=Lib.hid (tree_node (Nat.le_trans hB hb4.size) (ho.ls.lo (Nat.zero_le _)) HRR.out.2 HRR.out.1 H4.out hex4 (by rw[HEXP.out.1,hie];exact H0.out.nk.symm) HEXP.out.2.2.1);have HB4:=Lib.hid hb4;clear ho hb4 hex4;go_wp2_with fail;refine HND.out.mono ?_;rintro e W5 ⟨v,rfl,hn,hb5⟩;obtain⟨tv,gv,rfl⟩:=hn.iface;have HF:Hid (MapPost w d ((d,r)::(List.range ks.length).flatMap segs) (.returned (.iface tv (.pointer (some ⟨gv,0,none⟩)))) W5):=Lib.hid (by
      obtain⟨hkl,_,_,hkid,hsl⟩:=HEXP.out;have hbb:=HB4.out.trans (hb5.mono HB4.out.size);refine⟨_,_,rfl,TreeAt.mk d _ r ks' sg hn fun j hj=>((hkid j hj).tree).later hbb,?_,HBR.out.trans (hbb.mono HBR.out.size)⟩;rw[List.length_cons,List.length_cons,hkl,hie];rw[flat_same sg segs ks.length fun j hj=>hsl j (by omega)])
     clear hn hb5;go_wp2_with fail;go_ret;exact HF.out
def rowSel (s:SelR):PR:=⟨3,0,⟨#[]⟩,s.name,s.ms,⟨#[]⟩,⟨#[]⟩,s.off,s.tim,false,false,false,[],0,[],false,[]⟩
theorem grown_cell (w:World) (g i:Nat) (u:Value):w.grownBy (w.setCell ⟨g,i,none⟩ u) (some g):=
 ⟨rfl,by first|rfl|simp,rfl,by simp,fun k _ hne=>Below.heap_setCell w ⟨g,i,none⟩ u k (by rintro rfl;exact hne rfl)⟩
theorem set17 {W:World} {g:Nat} {t:TypeId} {z0 z1 z2 z3 z4 z5 z6 z7 z8 z9 z10 z11 z12 z13 z14 z15 z16:Value} (h:Blk W g t #[z0,z1,z2,z3,z4,z5,z6,z7,z8,z9,z10,z11,z12,z13,z14,z15,z16]) (v0 v1 v2 v3 v4 v5 v6 v7 v8 v9 v10 v11 v12 v13 v14 v15 v16:Value):
  Blk (((((((((((((((((W.setCell ⟨g,0,none⟩ v0).setCell ⟨g,1,none⟩ v1).setCell ⟨g,2,none⟩ v2).setCell ⟨g,3,none⟩ v3).setCell ⟨g,4,none⟩ v4).setCell ⟨g,5,none⟩ v5).setCell ⟨g,6,none⟩ v6).setCell ⟨g,7,none⟩ v7).setCell ⟨g,8,none⟩ v8).setCell ⟨g,9,none⟩ v9).setCell ⟨g,10,none⟩ v10).setCell ⟨g,11,none⟩ v11).setCell ⟨g,12,none⟩ v12).setCell ⟨g,13,none⟩ v13).setCell ⟨g,14,none⟩ v14).setCell ⟨g,15,none⟩ v15).setCell ⟨g,16,none⟩ v16) g t #[v0,v1,v2,v3,v4,v5,v6,v7,v8,v9,v10,v11,v12,v13,v14,v15,v16]∧W.grownBy (((((((((((((((((W.setCell ⟨g,0,none⟩ v0).setCell ⟨g,1,none⟩ v1).setCell ⟨g,2,none⟩ v2).setCell ⟨g,3,none⟩ v3).setCell ⟨g,4,none⟩ v4).setCell ⟨g,5,none⟩ v5).setCell ⟨g,6,none⟩ v6).setCell ⟨g,7,none⟩ v7).setCell ⟨g,8,none⟩ v8).setCell ⟨g,9,none⟩ v9).setCell ⟨g,10,none⟩ v10).setCell ⟨g,11,none⟩ v11).setCell ⟨g,12,none⟩ v12).setCell ⟨g,13,none⟩ v13).setCell ⟨g,14,none⟩ v14).setCell ⟨g,15,none⟩ v15).setCell ⟨g,16,none⟩ v16) (some g):=by
 refine⟨?_,(grow_trans (grow_trans (grow_trans (grow_trans (grow_trans (grow_trans (grow_trans (grow_trans (grow_trans (grow_trans (grow_trans (grow_trans (grow_trans (grow_trans (grow_trans (grow_trans (grown_cell W g 0 v0) (grown_cell _ g 1 v1)) (grown_cell _ g 2 v2)) (grown_cell _ g 3 v3)) (grown_cell _ g 4 v4)) (grown_cell _ g 5 v5)) (grown_cell _ g 6 v6)) (grown_cell _ g 7 v7)) (grown_cell _ g 8 v8)) (grown_cell _ g 9 v9)) (grown_cell _ g 10 v10)) (grown_cell _ g 11 v11)) (grown_cell _ g 12 v12)) (grown_cell _ g 13 v13)) (grown_cell _ g 14 v14)) (grown_cell _ g 15 v15)) (grown_cell _ g 16 v16))⟩;have:=(((((((((((((((((h.set_ 0 v0).set_ 1 v1).set_ 2 v2).set_ 3 v3).set_ 4 v4).set_ 5 v5).set_ 6 v6).set_ 7 v7).set_ 8 v8).set_ 9 v9).set_ 10 v10).set_ 11 v11).set_ 12 v12).set_ 13 v13).set_ 14 v14).set_ 15 v15).set_ 16 v16);simpa using this
def RefRow (w:World) (s:SelR) (e:Ending) (w':World):Prop:= ∃vm,e= .returned (rowV (rowSel s) vm (.slice none 0 0) (.slice none 0 0) (.slice none 0 0))∧RowLs 0 w' (rowSel s) vm (.slice none 0 0) (.slice none 0 0) (.slice none 0 0)∧Below w.heap.size w w'
theorem ref_Row {w:World} {s:SelR} {am:Option Addr} {nm cm:Nat} (h:MatS 0 w (.slice am nm cm) s.ms) (hl:s.ms.length≤1099511627776):
  Calls Tryz.prog 38 #[.agg #[.string s.name,.slice am nm cm,.string s.off,.string s.tim]] w (RefRow w s):=by
 obtain⟨W0,hW0⟩: ∃W0,W0=(w.alloc (.cells #[.string s.name,.slice am nm cm,.string s.off,.string s.tim] 36)).alloc (.cells zc 58):=⟨_,rfl⟩;have hb0:Below w.heap.size w W0:=by rw[hW0];exact((Below.refl _ w).alloc (Nat.le_refl _) _).alloc (by simp) _
 have hz0:Blk W0 w.heap.size 36 #[.string s.name,.slice am nm cm,.string s.off,.string s.tim]:=by rw[hW0];exact(Blk.new _ _ _).alloc _
 have hz1:Blk W0 (w.heap.size+1) 58 zc:=by
  rw[hW0];have:=Blk.new (w.alloc (.cells #[.string s.name,.slice am nm cm,.string s.off,.string s.tim] 36)) 58 zc;simpa using this
 simp only[zc]at hW0;have HW0:=Lib.hid hW0;have HZ1:=Lib.hid hz1;have HZ0:=Lib.hid hz0;have HB0:=Lib.hid hb0;have c0:W0.drew.cell? ⟨w.heap.size,0,none⟩=some (.string s.name):=hz0.cell 0;have c1:W0.drew.cell? ⟨w.heap.size,1,none⟩=some (.slice am nm cm):=hz0.cell 1;have c2:W0.drew.cell? ⟨w.heap.size,2,none⟩=some (.string s.off):=hz0.cell 2;have c3:W0.drew.cell? ⟨w.heap.size,3,none⟩=some (.string s.tim):=hz0.cell 3;have e0:(W0.alloc (.cells #[] 38)).drew.cell? ⟨w.heap.size,0,none⟩=some (.string s.name):=(hz0.alloc _).cell 0;have e1:(W0.alloc (.cells #[] 38)).drew.cell? ⟨w.heap.size,1,none⟩=some (.slice am nm cm):=(hz0.alloc _).cell 1;have e2:(W0.alloc (.cells #[] 38)).drew.cell? ⟨w.heap.size,2,none⟩=some (.string s.off):=(hz0.alloc _).cell 2;have e3:(W0.alloc (.cells #[] 38)).drew.cell? ⟨w.heap.size,3,none⟩=some (.string s.tim):=(hz0.alloc _).cell 3;have l0:=hz0.lt;have l1:=hz1.lt;have hnm:nm=s.ms.length:=by obtain⟨_,_,hv,_⟩:=h;injection hv
 have hnl:nm≤1099511627776:=by omega
 have HSRC:Hid (SrcV 3 (W0.alloc (.cells #[] 38)).drew (.slice am nm cm) nm (s.ms.flatMap matC)):=Lib.hid (by
  have:=(h.src.below hb0).below (((Below.refl W0.heap.size W0).alloc (Nat.le_refl _) (.cells #[] 38)).drew);rw[←hnm]at this;exact this)
 have HOWN:Hid ((W0.alloc (.cells #[] 38)).drew.ownsRow W0.heap.size 38 3 (.slice (some ⟨W0.heap.size,0,none⟩) 0 0) 0 []):=Lib.hid (by
  have:=World.ownsRow_made (size:=3) (base:=W0.heap.size) (e:=38) W0 #[] 0 (Nat.le_refl _) (Nat.zero_le _) (by simp);exact own_belowE this (Below.refl _ _).drew)
 have HNM:=Lib.hid hnm;clear h hl hW0 hb0 hz0 hz1 hnm;go_enter Tryz.func38,Tryz.ntmps38;go_wp2_with fail;rw[←HW0.out];go_region_held3 (fun W=>W.cell? ⟨w.heap.size,0,none⟩=some (.string s.name)∧W.cell? ⟨w.heap.size,1,none⟩=some (.slice am nm cm)∧W.cell? ⟨w.heap.size,2,none⟩=some (.string s.off)∧W.cell? ⟨w.heap.size,3,none⟩=some (.string s.tim)) (first|go_keep) (first|(refine step_append_srcV (by rfl) (.tmp 5) (.tmp 7) 32 (by rfl) W0.heap.size 38 _ 3 40 info_mat Tryz.underlying32 rfl (by decide) _ 0 [] (by rfl) HOWN.out _ nm (s.ms.flatMap matC) (by rfl) HSRC.out (by unfold maxLen;omega) (by omega) (by simp) ?_;intro v3 W3 ho3 hg3;obtain⟨a3,n3,c3,hv3⟩:=own_sl ho3;subst hv3;have HO3:=Lib.hid ho3;have hz3:Blk W3 w.heap.size 36 #[.string s.name,.slice am nm cm,.string s.off,.string s.tim]:=(HZ0.out.alloc _).drew.grown hg3 (by simp[Value.ownBlock];omega);have hz4:Blk W3 (w.heap.size+1) 58 zc:=(HZ1.out.alloc _).drew.grown hg3 (by simp[Value.ownBlock];omega);have d0:W3.cell? ⟨w.heap.size,0,none⟩=some (.string s.name):=hz3.cell 0;have d1:W3.cell? ⟨w.heap.size,1,none⟩=some (.slice am nm cm):=hz3.cell 1;have d2:W3.cell? ⟨w.heap.size,2,none⟩=some (.string s.off):=hz3.cell 2;have d3:W3.cell? ⟨w.heap.size,3,none⟩=some (.string s.tim):=hz3.cell 3;have q0:W3.cell? ⟨w.heap.size+1,0,none⟩=some (.int .i64 0):=hz4.cell 0;have f0:=hz4.frozen 0;have q1:W3.cell? ⟨w.heap.size+1,1,none⟩=some (.int .i64 0):=hz4.cell 1;have f1:=hz4.frozen 1;have q2:W3.cell? ⟨w.heap.size+1,2,none⟩=some (.string ⟨#[]⟩):=hz4.cell 2;have f2:=hz4.frozen 2;have q3:W3.cell? ⟨w.heap.size+1,3,none⟩=some (.string ⟨#[]⟩):=hz4.cell 3;have f3:=hz4.frozen 3;have q4:W3.cell? ⟨w.heap.size+1,4,none⟩=some (.slice none 0 0):=hz4.cell 4;have f4:=hz4.frozen 4;have q5:W3.cell? ⟨w.heap.size+1,5,none⟩=some (.string ⟨#[]⟩):=hz4.cell 5;have f5:=hz4.frozen 5;have q6:W3.cell? ⟨w.heap.size+1,6,none⟩=some (.string ⟨#[]⟩):=hz4.cell 6;have f6:=hz4.frozen 6;have q7:W3.cell? ⟨w.heap.size+1,7,none⟩=some (.string ⟨#[]⟩):=hz4.cell 7;have f7:=hz4.frozen 7;have q8:W3.cell? ⟨w.heap.size+1,8,none⟩=some (.string ⟨#[]⟩):=hz4.cell 8;have f8:=hz4.frozen 8;have q9:W3.cell? ⟨w.heap.size+1,9,none⟩=some (.bool false):=hz4.cell 9;have f9:=hz4.frozen 9;have q10:W3.cell? ⟨w.heap.size+1,10,none⟩=some (.bool false):=hz4.cell 10;have f10:=hz4.frozen 10;have q11:W3.cell? ⟨w.heap.size+1,11,none⟩=some (.bool false):=hz4.cell 11;have f11:=hz4.frozen 11;have q12:W3.cell? ⟨w.heap.size+1,12,none⟩=some (.slice none 0 0):=hz4.cell 12;have f12:=hz4.frozen 12;have q13:W3.cell? ⟨w.heap.size+1,13,none⟩=some (.int .i64 0):=hz4.cell 13;have f13:=hz4.frozen 13;have q14:W3.cell? ⟨w.heap.size+1,14,none⟩=some (.slice none 0 0):=hz4.cell 14;have f14:=hz4.frozen 14;have q15:W3.cell? ⟨w.heap.size+1,15,none⟩=some (.bool false):=hz4.cell 15;have f15:=hz4.frozen 15;have q16:W3.cell? ⟨w.heap.size+1,16,none⟩=some (.slice none 0 0):=hz4.cell 16;have f16:=hz4.frozen 16;have HZ4:=Lib.hid hz4;have HG3:=Lib.hid hg3;clear ho3 hg3 hz3 hz4));have hs:=set17 HZ4.out (.int .i64 3) (.int .i64 0) (.string ⟨#[]⟩) (.string s.name) (.slice a3 n3 c3) (.string ⟨#[]⟩) (.string ⟨#[]⟩) (.string s.off) (.string s.tim) (.bool false) (.bool false) (.bool false) (.slice none 0 0) (.int .i64 0) (.slice none 0 0) (.bool false) (.slice none 0 0);have HS:=Lib.hid hs;have hms:MatO W0.heap.size W3 (.slice a3 n3 c3) s.ms:=by
  have:=HO3.out;rw[Nat.zero_add,List.nil_append,HNM.out]at this;exact this
 have hb3:Below w.heap.size w W3:=HB0.out.trans (((((Below.refl W0.heap.size W0).alloc (Nat.le_refl _) (.cells #[] 38)).drew).grown HG3.out (by simp) (fun k hk=>by simp[Value.ownBlock]at hk;omega)).mono HB0.out.size);have HF:Hid (∀W,W3.grownBy W (some (w.heap.size+1))→RefRow w s (.returned (.agg (rowA (rowSel s) (.slice a3 n3 c3) (.slice none 0 0) (.slice none 0 0) (.slice none 0 0)))) W):=Lib.hid fun W hg=>
  ⟨.slice a3 n3 c3,rfl,⟨(MatS.of_own (own_grow hms hg HZ4.out (by decide))).lo (Nat.zero_le _),strS_none 0 W,strS_none 0 W,strS_none 0 W⟩,below_grow hb3 hg (by have:=hb3.size;omega) (by omega)⟩
 clear hs hms hb3 q0 q1 q2 q3 q4 q5 q6 q7 q8 q9 q10 q11 q12 q13 q14 q15 q16 f0 f1 f2 f3 f4 f5 f6 f7 f8 f9 f10 f11 f12 f13 f14 f15 f16;go_wp2_with fail;exact bodyPost_ret (results_blk Tryz.results38 rfl HS.out.1 Tryz.underlying58 info_row) rfl (HF.out _ HS.out.2)
structure RV where
 r:PR
 m:Value
 o:Value
 i:Value
 l:Value
def rvC (x:RV):List Value:=rowCs x.r x.m x.o x.i x.l
theorem rvC_len (x:RV):(rvC x).length=17:=rfl
def RvLs (w:World) (xs:List RV):Prop:= ∀x∈xs,RowLs 0 w x.r x.m x.o x.i x.l
theorem RowsC.of_own {b:Nat} {w:World} {e:TypeId} {v:Value} {xs:List RV} (h:w.ownsRow b e 17 v xs.length (xs.flatMap rvC)) (hl:RvLs w xs):RowsC w v (xs.map (·.r)):=by
 obtain⟨ao,c,h1,h2⟩:=own_flat rvC 17 rvC_len xs h;have hcap: ∃c2,v= .slice ao xs.length c2∧xs.length≤c2:=by
  rcases h.2 with⟨hv,hn⟩|⟨g,cap,cur,hv,_,_,hc,_⟩
  ·rw[h1]at hv;injection hv with e1 e2 e3
   exact⟨0,by rw[h1,e3],by omega⟩
  ·rw[h1]at hv;injection hv with e1 e2 e3
   exact⟨c,h1,by omega⟩
 obtain⟨c2,hv2,hle⟩:=hcap;refine⟨⟨ao,c2,by rw[hv2,List.length_map],fun j hj=>?_⟩,ao,c2,by rw[hv2,List.length_map],by rw[List.length_map];exact hle⟩;have hj':j<xs.length:=by simpa using hj
 obtain⟨g,o,a,lb,u,x⟩:=h2 j hj';have e:(xs.map (·.r))[j]=xs[j].r:=by simp
 rw[e];refine⟨g,o,a,Nat.zero_le _,u,xs[j].m,xs[j].o,xs[j].i,xs[j].l,hl _ (List.getElem_mem hj'),fun k hk=>?_⟩;rw[x k hk];exact List.getElem?_eq_getElem _
theorem matchB_row (r:PR):matchingB r=matchB r.given r.on r.mls r.card r.inc:=rfl
theorem tree_sound {T:Nat→World→Prop} (hT:NumT (fun _=>True) T):SoundC T:=by
 intro w r m o i l h hr hTw;obtain⟨⟨am,cm,rfl,_⟩,⟨ao,co,rfl,_⟩,⟨ai,ci,rfl,_⟩,⟨al,cl,rfl,_⟩⟩:=id h;cases hk:kidsB r.kind r.kids with
 |false=>
  have e:soundRow r=false:=by unfold soundRow;rw[hk];rfl
  rw[e];exact sound_kids w r _ _ _ _ _ _ _ _ _ _ _ _ h hr.len hk
 |true=>
  have h9:=kidsB_kind hk;have hu:=unused_iff h9;cases hu1:unusedB r with
  |false=>
   have e:soundRow r=false:=by unfold soundRow;rw[hk,hu1];rfl
   rw[e];exact sound_unused w r _ _ _ _ _ _ _ _ _ _ _ _ h hr.len hk fun e2=>by rw[hu.2 e2]at hu1;cases hu1
  |true=>
   have hu2:=hu.1 hu1;unfold soundRow;rw[hk,hu1,Bool.true_and,Bool.true_and];unfold kind9 at h9;rcases h9 with k|k|k|k|k|k|k|k|k
   ·rw[if_pos k];exact sound_1 w r _ _ _ _ _ _ _ _ _ _ _ _ h hr.len hT hTw hr k hk hu2
   ·rw[if_neg (by omega),if_pos k];exact sound_2 w r _ _ _ _ _ _ _ _ _ _ _ _ h hr.len hT hTw hr k hk hu2
   ·rw[if_neg (by omega),if_neg (by omega),if_pos k];exact sound_3 w r _ _ _ _ _ _ _ _ _ _ _ _ h hr.len hT hTw hr k hk hu2
   ·rw[if_neg (by omega),if_neg (by omega),if_neg (by omega),if_pos k];exact sound_4 w r _ _ _ _ _ _ _ _ _ _ _ _ h hr.len hT hTw hr k hk hu2
   ·rw[if_neg (by omega),if_neg (by omega),if_neg (by omega),if_neg (by omega),if_pos k];exact sound_5 w r _ _ _ _ _ _ _ _ _ _ _ _ h hr.len hT hTw hr k hk hu2
   ·rw[if_neg (by omega),if_neg (by omega),if_neg (by omega),if_neg (by omega),if_neg (by omega),if_pos k];exact sound_6 w r _ _ _ _ _ _ _ _ _ _ _ _ h hr.len hT hTw hr k hk hu2
   ·rw[if_neg (by omega),if_neg (by omega),if_neg (by omega),if_neg (by omega),if_neg (by omega),if_neg (by omega),if_pos k,matchB_row];exact sound_7 w r _ _ _ _ _ _ _ _ _ _ _ _ h hr.len hT hTw hr k hk hu2
   ·rw[if_neg (by omega),if_neg (by omega),if_neg (by omega),if_neg (by omega),if_neg (by omega),if_neg (by omega),if_neg (by omega),if_pos k];exact sound_8 w r _ _ _ _ _ _ _ _ _ _ _ _ h hr.len hT hTw hr k hk hu2
   ·rw[if_neg (by omega),if_neg (by omega),if_neg (by omega),if_neg (by omega),if_neg (by omega),if_neg (by omega),if_neg (by omega),if_neg (by omega)];exact sound_9 w r _ _ _ _ _ _ _ _ _ _ _ _ h hr.len hT hTw hr k hk hu2
def treeOf (rs:List PR):List (Nat×PR):=if buildErr rs=0 then annot 1 rs else[]
theorem agree_set (w:World) (p:Addr) (u:Value):Agree (p.block+1) w (w.setCell p u):=⟨by simp,fun k hk _=>Below.heap_setCell w p u k (by omega)⟩
def BuildPost (w:World) (rs:List PR) (e:Ending) (w':World):Prop:=
 ∃v,e= .returned (.tuple #[.agg #[v],.int .i64 (buildErr rs:Nat)])∧RootAt w.heap.size w' v (treeOf rs)∧Below w.heap.size w w'
theorem BuildPost.none_ {w w':World} {rs:List PR} {n:Nat} (h:buildErr rs=n) (hn:n≠0) (hb:Below w.heap.size w w'):BuildPost w rs (.returned (.tuple #[.agg #[.nilIface],.int .i64 (n:Nat)])) w':=
 ⟨.nilIface,by rw[h],.inl ⟨rfl,by unfold treeOf;rw[h,if_neg hn]⟩,hb⟩
theorem RootAt.lo {b b':Nat} {w:World} {v:Value} {L:List (Nat×PR)} (h:RootAt b w v L) (hb:b'≤b):RootAt b' w v L:=h.elim .inl fun h=>.inr (h.lo hb)
theorem tree_Build {T:Nat→World→Prop} (hT:NumT (fun _=>True) T) {w:World} {v:Value} {rs:List PR} (h:RowsC w v rs) (hlen:rs.length≤1048576) (hsm: ∀r∈rs,SmallR r) (hTw:T w.heap.size w):
  Calls Tryz.prog 21 #[v] w (BuildPost w rs):=by
 have HS:Hid (∀W,Below w.heap.size w W→Calls Tryz.prog 64 #[v] W (ShapedPost W rs)):=Lib.hid fun W hb=>tree_shaped hT (tree_sound hT) (h.1.below hb) hlen hsm (hT.mono (hT.keep hTw hb) hb.size)
 have HB:Hid (∀W,Below w.heap.size w W→w.heap.size+1≤W.heap.size→shapeB rs=true→Calls Tryz.prog 65 #[v] W (BuiltPost (w.heap.size+1) w W 1 rs [])):=Lib.hid fun W hb hl hs=>by
  obtain⟨h1,h2,h3⟩:=shape_parts hs;exact tree_built rs.length _ w rs [] W 1 v (Nat.le_refl _) hl hb (by rw[List.append_nil];exact h) h1 (fun r hr=>⟨List.all_eq_true.1 h2 r hr,(hsm r hr).len⟩) (by rw[List.append_nil];exact h3) (by rw[List.append_nil];omega)
 have hb0:Below w.heap.size w (w.alloc (.cells #[.nilIface] 26)):=(Below.refl _ w).alloc (Nat.le_refl _) _;have HB0:=Lib.hid hb0;have HZ0:=Lib.hid (Blk.new w 26 #[.nilIface]);clear h hsm hTw hb0;go_enter Tryz.func21,Tryz.ntmps21;go_wp2_with fail;refine(HS.out _ HB0.out).mono ?_;rintro e w1 ⟨d,ok,rfl,hok,hd,hb1⟩;have HB1:=Lib.hid (HB0.out.trans (hb1.mono HB0.out.size));have hz:=HZ0.out.below hb1 HZ0.out.lt;have HZ1:=Lib.hid hz;have c0:=hz.cell 0;have f0:=hz.frozen 0;simp at c0;have s0:=hz.lt;clear hz hb1;cases ok with
 |false=>
  have HP:Hid (∀W,Below w.heap.size w W→BuildPost w rs (.returned (.tuple #[.agg #[.nilIface],.int .i64 (120:Nat)])) W):=Lib.hid fun W hb=>BuildPost.none_ (by unfold buildErr;rw[←hok];rfl) (by decide) hb
  clear hok hd;go_wp2_with fail;refine bodyPost_ret (v:=.tuple #[.agg #[.nilIface],.int .i64 (120:Nat)]) ?_ rfl (HP.out _ ?_)
  ·simp[results,Tryz.results21,go_sem,c0]
  ·exact HB1.out.setCell (p:=⟨w.heap.size,0,none⟩) (Nat.le_refl _) _
 |true=>
  have hsh:=hok.symm;obtain rfl:=hd rfl;have hdp:=shape_parts hsh;by_cases hdeep:128<deepOf rs
  ·have p1:((128:Int)<(deepOf rs:Int))=True:=eq_true (by omega);have HP:Hid (∀W,Below w.heap.size w W→BuildPost w rs (.returned (.tuple #[.agg #[.nilIface],.int .i64 (3:Nat)])) W):=Lib.hid fun W hb=>BuildPost.none_ (build_deep hsh hdeep) (by decide) hb
   clear hok hd hsh hdp hdeep;go_wp2_with fail;refine bodyPost_ret (v:=.tuple #[.agg #[.nilIface],.int .i64 (3:Nat)]) ?_ rfl (HP.out _ ?_)
   ·simp[results,Tryz.results21,go_sem,c0]
   ·exact HB1.out.setCell (p:=⟨w.heap.size,0,none⟩) (Nat.le_refl _) _
  ·have p1:((128:Int)<(deepOf rs:Int))=False:=eq_false (by omega);have HSH:=Lib.hid hsh;have he:buildErr rs=0:=build_ok.2 ⟨hsh,by omega⟩;have HE:=Lib.hid he;clear hok hd hsh hdp hdeep he;go_wp2_with fail;refine(HB.out _ HB1.out HZ1.out.lt HSH.out).mono ?_;rintro e w2 ⟨nv,sv,rfl,htree,_,hb2⟩;obtain⟨tt,gg,rfl⟩:=htree.iface;have hz:=HZ1.out.below hb2 HZ1.out.lt;have c1:=hz.cell 0;have f1:=hz.frozen 0;simp at c1;have s1:=hz.lt;have HB2:=Lib.hid (HB1.out.trans (hb2.mono HB1.out.size));have HTR:=Lib.hid htree;clear hz hb2 htree;go_wp2_with fail;have HF:Hid (BuildPost w rs (.returned (.tuple #[.agg #[.iface tt (.pointer (some ⟨gg,0,none⟩))],.int .i64 (0:Nat)])) (w2.setCell ⟨w.heap.size,0,none⟩ (.iface tt (.pointer (some ⟨gg,0,none⟩))))):=Lib.hid ⟨_,by rw[HE.out],.inr (by
    rw[treeOf,if_pos HE.out];exact(HTR.out.agree (agree_set w2 ⟨w.heap.size,0,none⟩ (.iface tt (.pointer (some ⟨gg,0,none⟩))))).lo (Nat.le_succ _)),HB2.out.setCell (p:=⟨w.heap.size,0,none⟩) (Nat.le_refl _) _⟩
   refine bodyPost_ret (v:=.tuple #[.agg #[.iface tt (.pointer (some ⟨gg,0,none⟩))],.int .i64 (0:Nat)]) ?_ rfl HF.out;simp[results,Tryz.results21,go_sem,c1]
theorem treeOf_ok {rs:List PR} (h:buildErr rs=0):treeOf rs=annot 1 rs:=by unfold treeOf;rw[if_pos h]
theorem deepL_tree {rs:List PR} (h:buildErr rs=0):deepL (treeOf rs)=deepOf rs:=by
 rw[treeOf_ok h];unfold deepL deepOf;rw[annot_depths (shape_parts (build_ok.1 h).1).1]
theorem rows_tree {rs:List PR} (h:buildErr rs=0):(treeOf rs).map (·.2)=rs:=by
 rw[treeOf_ok h,annot_rows (shape_parts (build_ok.1 h).1).1]
theorem len_tree {rs:List PR} (h:buildErr rs=0):(treeOf rs).length=rs.length:=by
 have:=congrArg List.length (rows_tree h)
 rwa [List.length_map]at this
theorem mem_tree {rs:List PR} (h:buildErr rs=0) {x:Nat×PR} (hx:x∈treeOf rs):x.2∈rs:=by
 rw[←rows_tree h];exact List.mem_map.2 ⟨x,hx,rfl⟩
theorem smallR_bare {k n card:Int} {op text:ByteArray} {b1 b2 b3 b4:Bool} (h1:op.size≤1048576) (h2:text.size≤1048576):SmallR ⟨k,n,op,text,[],⟨#[]⟩,⟨#[]⟩,⟨#[]⟩,⟨#[]⟩,b1,b2,b3,[],card,[],b4,[]⟩:=by
 have h0:ByteArray.size ⟨#[]⟩≤1048576:=by decide
 exact⟨h1,h2,h0,h0,h0,h0,by simp,by simp,by simp,by simp,by simp,by simp,by simp,by simp⟩
theorem small_small: ∀r∈smallL,SmallR r:=by
 intro r hr;simp only[smallL,List.mem_cons,List.not_mem_nil,or_false]at hr;rcases hr with rfl|rfl|rfl
 ·exact smallR_bare (by decide) (by decide)
 ·exact smallR_bare (by decide) (by decide)
 ·exact smallR_bare (by decide) (by decide)
def nilS:Value:=.slice none 0 0
theorem rowLs_bare {b:Nat} {w:World} {r:PR} (h1:r.ms=[]) (h2:r.mls=[]) (h3:r.inc=[]) (h4:r.labels=[]):RowLs b w r nilS nilS nilS nilS:=by
 unfold RowLs;rw[h1,h2,h3,h4];exact⟨matS_none b w,strS_none b w,strS_none b w,strS_none b w⟩
def rvBare (r:PR):RV:=⟨r,nilS,nilS,nilS,nilS⟩
def RowsPost12 (w:World) (e:Ending) (w':World):Prop:= ∃v,e= .returned v∧RowsC w' v smallL∧Below w.heap.size w w'
theorem law12_small (w:World):Calls Tryz.prog 62 #[] w (RowsPost12 w):=by
 have HF:Hid (∀cs:Array Value,cs=([rvBare small0,rvBare small1,rvBare small2].flatMap rvC).toArray→RowsPost12 w (.returned (.slice (some ⟨w.heap.size,0,none⟩) 3 3)) (w.alloc (.cells cs 58))):=Lib.hid fun cs hcs=>by
  subst hcs;have ho:=World.ownsRow_lit (base:=w.heap.size) (e:=58) (size:=17) w ([rvBare small0,rvBare small1,rvBare small2].flatMap rvC).toArray 3 (Nat.le_refl _) (by decide) (by rfl);refine⟨_,rfl,RowsC.of_own (b:=w.heap.size) (e:=58) (xs:=[rvBare small0,rvBare small1,rvBare small2]) (by simpa using ho) ?_,(Below.refl _ w).alloc (Nat.le_refl _) _⟩;intro x hx;simp only[List.mem_cons,List.not_mem_nil,or_false]at hx;rcases hx with rfl|rfl|rfl
  ·exact rowLs_bare rfl rfl rfl rfl
  ·exact rowLs_bare rfl rfl rfl rfl
  ·exact rowLs_bare rfl rfl rfl rfl
 go_enter Tryz.func62,Tryz.ntmps62;go_wp2_with fail;go_ret;exact HF.out _ rfl
theorem box_tree {B:Nat} {w w1:World} (hb:Below B w w1) (hB:B≤w1.heap.size) (v:Value):Below B w (w1.alloc (.cells #[v] 26))∧Blk (w1.alloc (.cells #[v] 26)) w1.heap.size 26 #[v]∧Below w1.heap.size w1 (w1.alloc (.cells #[v] 26)):=
 ⟨hb.alloc hB _,Blk.new _ _ _,(Below.refl _ w1).alloc (Nat.le_refl _) _⟩
theorem RootAt.some_ {b:Nat} {w:World} {v:Value} {rs:List PR} (h:RootAt b w v (treeOf rs)) (he:buildErr rs=0): ∃t g,v= .iface t (.pointer (some ⟨g,0,none⟩)):=by
 rcases h with⟨_,h⟩|h
 ·have:=len_tree he;rw[h]at this;obtain⟨r,t,rfl,_⟩:=trees_pos (shape_parts (build_ok.1 he).1).1;simp at this
 ·exact h.iface
theorem RootAt.nil_ {b:Nat} {w:World} {v:Value} {rs:List PR} (h:RootAt b w v (treeOf rs)) (he:buildErr rs≠0):v= .nilIface:=by
 rcases h with⟨h,_⟩|h
 ·exact h
 ·unfold treeOf at h;rw[if_neg he]at h;cases h
theorem law12_awake {T:Nat→World→Prop} (hT:NumT (fun _=>True) T) (w:World) (hTw:T w.heap.size w):Calls Tryz.prog 19 #[] w (BoolPost w true):=by
 have HBU:Hid (∀W v,Below w.heap.size w W→RowsC W v smallL→Calls Tryz.prog 21 #[v] W (BuildPost W smallL)):=Lib.hid fun W v hb h=>tree_Build hT h (by decide) small_small (hT.mono (hT.keep hTw hb) hb.size)
 clear hTw;go_enter Tryz.func19,Tryz.ntmps19;go_wp2_with fail;refine(law12_small w).mono ?_;rintro e w1 ⟨v,rfl,hr,hb1⟩;have HR:=Lib.hid hr;have HB1:=Lib.hid hb1;clear hr hb1;go_wp2_with fail;refine(HBU.out _ _ HB1.out HR.out).mono ?_;rintro e w2 ⟨vx,rfl,hx,hb2⟩;obtain⟨t,g,rfl⟩:=hx.some_ small_build;have hbb:=HB1.out.trans (hb2.mono HB1.out.size);obtain⟨k1,k2,k3⟩:=box_tree hbb hbb.size (.iface t (.pointer (some ⟨g,0,none⟩)));have HX:=Lib.hid ((hx.lo (Nat.zero_le _)).below k3);obtain⟨W3,hW3⟩: ∃W3,W3=w2.alloc (.cells #[.iface t (.pointer (some ⟨g,0,none⟩))] 26):=⟨_,rfl⟩;rw[←hW3]at k1 k2 HX;rw[small_build];have HW3:=Lib.hid hW3;have HK1:=Lib.hid k1;have HK2:=Lib.hid k2;have c0:=k2.cell 0;simp at c0;have l0:=k2.lt;have HD:Hid (∀W,Below W3.heap.size W3 W→Calls Tryz.prog 26 #[.agg #[.iface t (.pointer (some ⟨g,0,none⟩))]] W (IntPost W 2)):=Lib.hid fun W h=>by
  have:=tree_Depth (HX.out.below h) (by rw[len_tree small_build];decide);rw[deepL_tree small_build,small_deep]at this;exact this
 have HN:Hid (∀W,Below W3.heap.size W3 W→Calls Tryz.prog 27 #[.agg #[.iface t (.pointer (some ⟨g,0,none⟩))]] W (IntPost W 3)):=Lib.hid fun W h=>by
  have:=tree_Nodes (HX.out.below h) (by rw[len_tree small_build];decide);rw[len_tree small_build]at this;exact this
 clear hx hb2 hbb k1 k2 k3 hW3;go_upto_region 2 with(fail)
 rw[←HW3.out];go_wp2_with (first|(go_at_call 26;(with_reducible refine(HD.out _ (Below.refl _ _)).mono ?_);rintro e W4 ⟨rfl,hb4⟩;have d0:W4.cell? ⟨w2.heap.size,0,none⟩=some (.iface t (.pointer (some ⟨g,0,none⟩))):=(hb4.cell (p:=⟨w2.heap.size,0,none⟩) l0).trans (HK2.out.cell 0);have HB4:=Lib.hid hb4;clear hb4)|(go_at_call 27;(with_reducible refine(HN.out _ HB4.out).mono ?_);rintro e W5 ⟨rfl,hb5⟩;have HB5:=Lib.hid (HK1.out.trans ((HB4.out.trans (hb5.mono HB4.out.size)).mono HK1.out.size));clear hb5));go_ret;exact⟨rfl,HB5.out⟩
theorem sels_len (rs:List PR):(selsOf rs).length≤rs.length:=by
 unfold selsOf;rw[List.length_map];exact List.length_filter_le _ _
theorem sels_small {rs:List PR} (h: ∀r∈rs,SmallR r): ∀s∈selsOf rs,s.ms.length≤1099511627776:=by
 intro s hs;unfold selsOf at hs;obtain⟨r,hr,rfl⟩:=List.mem_map.1 hs;exact(h r (List.mem_filter.1 hr).1).len.1
theorem info_tree:(Tryz.prog.info? 26).map (·.size)=some 1:=by kernel_rfl
theorem RootAt.one {b:Nat} {w:World} {v:Value} {L:List (Nat×PR)} (h:RootAt b w v L):v.oneCell'=true:=by
 rcases h with⟨rfl,_⟩|h
 ·rfl
 ·obtain⟨t,g,rfl⟩:=h.iface;rfl
theorem ref_SameSelector_eq {w:World} {a:SelR} {am bm:Option Addr} {an ac bn bc:Nat} (ha:MatS 0 w (.slice am an ac) a.ms) (hb:MatS 0 w (.slice bm bn bc) a.ms) (la:a.ms.length≤1099511627776):
  Calls Tryz.prog 74 #[.agg #[.string a.name,.slice am an ac,.string a.off,.string a.tim],.agg #[.string a.name,.slice bm bn bc,.string a.off,.string a.tim]] w (BoolPost w true):=by
 obtain⟨W0,hW0⟩: ∃W0,W0=(w.alloc (.cells #[.string a.name,.slice am an ac,.string a.off,.string a.tim] 36)).alloc (.cells #[.string a.name,.slice bm bn bc,.string a.off,.string a.tim] 36):=⟨_,rfl⟩;have hb0:Below w.heap.size w W0:=by rw[hW0];exact((Below.refl _ w).alloc (Nat.le_refl _) _).alloc (by simp) _
 have hz0:Blk W0 w.heap.size 36 #[.string a.name,.slice am an ac,.string a.off,.string a.tim]:=by rw[hW0];exact(Blk.new _ _ _).alloc _
 have hz1:Blk W0 (w.heap.size+1) 36 #[.string a.name,.slice bm bn bc,.string a.off,.string a.tim]:=by
  rw[hW0];have:=Blk.new (w.alloc (.cells #[.string a.name,.slice am an ac,.string a.off,.string a.tim] 36)) 36 #[.string a.name,.slice bm bn bc,.string a.off,.string a.tim];simpa using this
 have HW0:=Lib.hid hW0;have HZ0:=Lib.hid hz0;have HZ1:=Lib.hid hz1;have HB0:Hid (Below w.heap.size w W0.drew):=Lib.hid hb0.drew;have HR1:Hid (∀W,Below w.heap.size w W→Calls Tryz.prog 38 #[.agg #[.string a.name,.slice am an ac,.string a.off,.string a.tim]] W (RefRow W a)):=Lib.hid fun W h=>ref_Row (ha.below h) la
 have HR2:Hid (∀W,Below w.heap.size w W→Calls Tryz.prog 38 #[.agg #[.string a.name,.slice bm bn bc,.string a.off,.string a.tim]] W (RefRow W a)):=Lib.hid fun W h=>ref_Row (hb.below h) la
 have HSR:Hid (∀W m1 o1 i1 l1 m2 o2 i2 l2,RowLs 0 W (rowSel a) m1 o1 i1 l1→RowLs 0 W (rowSel a) m2 o2 i2 l2→Calls Tryz.prog 24 #[rowV (rowSel a) m1 o1 i1 l1,rowV (rowSel a) m2 o2 i2 l2] W (BoolPost W true)):=Lib.hid fun W m1 o1 i1 l1 m2 o2 i2 l2 h1 h2=>
  ref_sameRow_eq h1 h2 ⟨la,by simp[rowSel],by simp[rowSel],by simp[rowSel]⟩
 have c0:W0.drew.cell? ⟨w.heap.size,0,none⟩=some (.string a.name):=hz0.cell 0;have c1:W0.drew.cell? ⟨w.heap.size,1,none⟩=some (.slice am an ac):=hz0.cell 1;have c2:W0.drew.cell? ⟨w.heap.size,2,none⟩=some (.string a.off):=hz0.cell 2;have c3:W0.drew.cell? ⟨w.heap.size,3,none⟩=some (.string a.tim):=hz0.cell 3;have c4:W0.drew.cell? ⟨w.heap.size+1,0,none⟩=some (.string a.name):=hz1.cell 0;have c5:W0.drew.cell? ⟨w.heap.size+1,1,none⟩=some (.slice bm bn bc):=hz1.cell 1;have c6:W0.drew.cell? ⟨w.heap.size+1,2,none⟩=some (.string a.off):=hz1.cell 2;have c7:W0.drew.cell? ⟨w.heap.size+1,3,none⟩=some (.string a.tim):=hz1.cell 3;have l0:=hz0.lt;have l1:=hz1.lt;clear ha hb la hW0 hb0 hz0 hz1;go_enter Tryz.func74,Tryz.ntmps74;go_wp2_with fail;rw[←HW0.out];go_region_held3 (fun W=>W.cell? ⟨w.heap.size,0,none⟩=some (.string a.name)∧W.cell? ⟨w.heap.size,1,none⟩=some (.slice am an ac)∧W.cell? ⟨w.heap.size,2,none⟩=some (.string a.off)∧W.cell? ⟨w.heap.size,3,none⟩=some (.string a.tim)∧W.cell? ⟨w.heap.size+1,0,none⟩=some (.string a.name)∧W.cell? ⟨w.heap.size+1,1,none⟩=some (.slice bm bn bc)∧W.cell? ⟨w.heap.size+1,2,none⟩=some (.string a.off)∧W.cell? ⟨w.heap.size+1,3,none⟩=some (.string a.tim)) (first|go_keep) (first|(go_at_call 38;(with_reducible refine(HR1.out _ HB0.out).mono ?_);rintro e W1 ⟨vm1,rfl,hl1,hb1⟩;have HL1:=Lib.hid hl1;have HB1:=Lib.hid (HB0.out.trans (hb1.mono HB0.out.size));have hbz:Below W0.heap.size W0 W1:=(Below.refl _ _).drew.trans hb1;have HBZ:=Lib.hid hbz;have d0:W1.cell? ⟨w.heap.size,0,none⟩=some (.string a.name):=(hbz.cell (p:=⟨w.heap.size,0,none⟩) l0).trans (HZ0.out.cell 0);have d1:W1.cell? ⟨w.heap.size,1,none⟩=some (.slice am an ac):=(hbz.cell (p:=⟨w.heap.size,1,none⟩) l0).trans (HZ0.out.cell 1);have d2:W1.cell? ⟨w.heap.size,2,none⟩=some (.string a.off):=(hbz.cell (p:=⟨w.heap.size,2,none⟩) l0).trans (HZ0.out.cell 2);have d3:W1.cell? ⟨w.heap.size,3,none⟩=some (.string a.tim):=(hbz.cell (p:=⟨w.heap.size,3,none⟩) l0).trans (HZ0.out.cell 3);have d4:W1.cell? ⟨w.heap.size+1,0,none⟩=some (.string a.name):=(hbz.cell (p:=⟨w.heap.size+1,0,none⟩) l1).trans (HZ1.out.cell 0);have d5:W1.cell? ⟨w.heap.size+1,1,none⟩=some (.slice bm bn bc):=(hbz.cell (p:=⟨w.heap.size+1,1,none⟩) l1).trans (HZ1.out.cell 1);have d6:W1.cell? ⟨w.heap.size+1,2,none⟩=some (.string a.off):=(hbz.cell (p:=⟨w.heap.size+1,2,none⟩) l1).trans (HZ1.out.cell 2);have d7:W1.cell? ⟨w.heap.size+1,3,none⟩=some (.string a.tim):=(hbz.cell (p:=⟨w.heap.size+1,3,none⟩) l1).trans (HZ1.out.cell 3);clear hl1 hb1 hbz)|(go_at_call 38;(with_reducible refine(HR2.out _ HB1.out).mono ?_);rintro e W2 ⟨vm2,rfl,hl2,hb2⟩;have HL2:=Lib.hid hl2;have HL3:=Lib.hid (HL1.out.below hb2);have HB2:=Lib.hid (HB1.out.trans (hb2.mono HB1.out.size));have hbz:Below W0.heap.size W0 W2:=HBZ.out.trans (hb2.mono HBZ.out.size);have HBZ2:=Lib.hid hbz;have f0:W2.cell? ⟨w.heap.size,0,none⟩=some (.string a.name):=(hbz.cell (p:=⟨w.heap.size,0,none⟩) l0).trans (HZ0.out.cell 0);have f1:W2.cell? ⟨w.heap.size,1,none⟩=some (.slice am an ac):=(hbz.cell (p:=⟨w.heap.size,1,none⟩) l0).trans (HZ0.out.cell 1);have f2:W2.cell? ⟨w.heap.size,2,none⟩=some (.string a.off):=(hbz.cell (p:=⟨w.heap.size,2,none⟩) l0).trans (HZ0.out.cell 2);have f3:W2.cell? ⟨w.heap.size,3,none⟩=some (.string a.tim):=(hbz.cell (p:=⟨w.heap.size,3,none⟩) l0).trans (HZ0.out.cell 3);have f4:W2.cell? ⟨w.heap.size+1,0,none⟩=some (.string a.name):=(hbz.cell (p:=⟨w.heap.size+1,0,none⟩) l1).trans (HZ1.out.cell 0);have f5:W2.cell? ⟨w.heap.size+1,1,none⟩=some (.slice bm bn bc):=(hbz.cell (p:=⟨w.heap.size+1,1,none⟩) l1).trans (HZ1.out.cell 1);have f6:W2.cell? ⟨w.heap.size+1,2,none⟩=some (.string a.off):=(hbz.cell (p:=⟨w.heap.size+1,2,none⟩) l1).trans (HZ1.out.cell 2);have f7:W2.cell? ⟨w.heap.size+1,3,none⟩=some (.string a.tim):=(hbz.cell (p:=⟨w.heap.size+1,3,none⟩) l1).trans (HZ1.out.cell 3);clear hl2 hb2 hbz)|(go_at_call 24;(with_reducible refine(HSR.out _ _ _ _ _ _ _ _ _ HL3.out HL2.out).mono ?_);rintro e W3 ⟨rfl,hb3⟩;have HB3:=Lib.hid (HB2.out.trans (hb3.mono HB2.out.size));have hbz:Below W0.heap.size W0 W3:=HBZ2.out.trans (hb3.mono HBZ2.out.size);have g0:W3.cell? ⟨w.heap.size,0,none⟩=some (.string a.name):=(hbz.cell (p:=⟨w.heap.size,0,none⟩) l0).trans (HZ0.out.cell 0);have g1:W3.cell? ⟨w.heap.size,1,none⟩=some (.slice am an ac):=(hbz.cell (p:=⟨w.heap.size,1,none⟩) l0).trans (HZ0.out.cell 1);have g2:W3.cell? ⟨w.heap.size,2,none⟩=some (.string a.off):=(hbz.cell (p:=⟨w.heap.size,2,none⟩) l0).trans (HZ0.out.cell 2);have g3:W3.cell? ⟨w.heap.size,3,none⟩=some (.string a.tim):=(hbz.cell (p:=⟨w.heap.size,3,none⟩) l0).trans (HZ0.out.cell 3);have g4:W3.cell? ⟨w.heap.size+1,0,none⟩=some (.string a.name):=(hbz.cell (p:=⟨w.heap.size+1,0,none⟩) l1).trans (HZ1.out.cell 0);have g5:W3.cell? ⟨w.heap.size+1,1,none⟩=some (.slice bm bn bc):=(hbz.cell (p:=⟨w.heap.size+1,1,none⟩) l1).trans (HZ1.out.cell 1);have g6:W3.cell? ⟨w.heap.size+1,2,none⟩=some (.string a.off):=(hbz.cell (p:=⟨w.heap.size+1,2,none⟩) l1).trans (HZ1.out.cell 2);have g7:W3.cell? ⟨w.heap.size+1,3,none⟩=some (.string a.tim):=(hbz.cell (p:=⟨w.heap.size+1,3,none⟩) l1).trans (HZ1.out.cell 3);clear hb3 hbz));go_wp2_with fail;go_ret;exact⟨rfl,HB3.out⟩
theorem law12_sameSelectors_eq {w:World} {v1 v2:Value} {xs:List SelR} (h1:SelS w v1 xs) (h2:SelS w v2 xs) (hn:xs.length≤1099511627776) (l1: ∀s∈xs,s.ms.length≤1099511627776):
  Calls Tryz.prog 28 #[v1,v2] w (BoolPost w true):=by
 obtain⟨a1,c1,rfl,hc1⟩:=h1;obtain⟨a2,c2,rfl,hc2⟩:=h2;have H1:=Lib.hid hc1;have H2:=Lib.hid hc2;have L1:=Lib.hid l1;clear hc1 hc2 l1;go_enter Tryz.func28,Tryz.ntmps28;go_wp2_with fail;go_loopw [5] (fun t5 wr=> ∃j:Nat,Hid (j≤xs.length)∧t5= .int .i64 (j:Int)∧Hid (Below w.heap.size w wr)) (fun t5 _=>xs.length-(intOf t5).toNat)
 case atStart=>exact⟨0,Lib.hid (Nat.zero_le _),rfl,Lib.hid (Below.refl _ _)⟩
 case round=>
  obtain⟨j,hj,rfl,hB⟩:=hrel;by_cases hlt:j<xs.length
  ·have p1:((j:Int)<(xs.length:Int))=True:=eq_true (by omega);obtain⟨g1,o1,u1,rfl,hg1,hm1,e0,e1,e2,e3⟩:=H1.out j hlt;obtain⟨g2,o2,u2,rfl,hg2,hm2,f0,f1,f2,f3⟩:=H2.out j hlt;have lx:=L1.out _ (List.getElem_mem hlt);generalize hX:xs[j]=x at hm1 e0 e1 e2 e3 lx hm2 f0 f1 f2 f3;obtain⟨am,ac,rfl,_⟩:=id hm1;obtain⟨bm,bc,rfl,_⟩:=id hm2;obtain⟨an,han⟩: ∃n,n=x.ms.length:=⟨_,rfl⟩;obtain⟨bn,hbn⟩: ∃n,n=x.ms.length:=⟨_,rfl⟩;rw[←han]at hm1 e1;rw[←hbn]at hm2 f1;have HC:Hid (∀W,Below w.heap.size w W→Calls Tryz.prog 74 #[.agg #[.string x.name,.slice am an ac,.string x.off,.string x.tim],.agg #[.string x.name,.slice bm bn bc,.string x.off,.string x.tim]] W (BoolPost W true)):=Lib.hid fun W h=>ref_SameSelector_eq (hm1.below h) (hm2.below h) lx
   have hw1:g1<wr.drew.heap.size:=Nat.lt_of_lt_of_le hg1 hB.out.size;have hw2:g2<wr.drew.heap.size:=Nat.lt_of_lt_of_le hg2 hB.out.size;have c0:wr.drew.cell? ⟨g1,o1+j*4,none⟩=some (.string x.name):=(hB.out.cell (p:=⟨g1,o1+j*4,none⟩) hg1).trans e0;have C0:=Lib.hid c0;have c1:wr.drew.cell? ⟨g1,o1+j*4+1,none⟩=some (.slice am an ac):=(hB.out.cell (p:=⟨g1,o1+j*4+1,none⟩) hg1).trans e1;have C1:=Lib.hid c1;have c2:wr.drew.cell? ⟨g1,o1+j*4+2,none⟩=some (.string x.off):=(hB.out.cell (p:=⟨g1,o1+j*4+2,none⟩) hg1).trans e2;have C2:=Lib.hid c2;have c3:wr.drew.cell? ⟨g1,o1+j*4+3,none⟩=some (.string x.tim):=(hB.out.cell (p:=⟨g1,o1+j*4+3,none⟩) hg1).trans e3;have C3:=Lib.hid c3;have c4:wr.drew.cell? ⟨g2,o2+j*4,none⟩=some (.string x.name):=(hB.out.cell (p:=⟨g2,o2+j*4,none⟩) hg2).trans f0;have C4:=Lib.hid c4;have c5:wr.drew.cell? ⟨g2,o2+j*4+1,none⟩=some (.slice bm bn bc):=(hB.out.cell (p:=⟨g2,o2+j*4+1,none⟩) hg2).trans f1;have C5:=Lib.hid c5;have c6:wr.drew.cell? ⟨g2,o2+j*4+2,none⟩=some (.string x.off):=(hB.out.cell (p:=⟨g2,o2+j*4+2,none⟩) hg2).trans f2;have C6:=Lib.hid c6;have c7:wr.drew.cell? ⟨g2,o2+j*4+3,none⟩=some (.string x.tim):=(hB.out.cell (p:=⟨g2,o2+j*4+3,none⟩) hg2).trans f3;have C7:=Lib.hid c7;have hj0:(0:Int)≤(j:Int):=Int.natCast_nonneg j;clear hX hm1 hm2 han hbn lx e0 e1 e2 e3 f0 f1 f2 f3;go_wp2_with fail;go_region_held3 (fun W=>W.cell? ⟨g1,o1+j*4,none⟩=some (.string x.name)∧W.cell? ⟨g1,o1+j*4+1,none⟩=some (.slice am an ac)∧W.cell? ⟨g1,o1+j*4+2,none⟩=some (.string x.off)∧W.cell? ⟨g1,o1+j*4+3,none⟩=some (.string x.tim)∧W.cell? ⟨g2,o2+j*4,none⟩=some (.string x.name)∧W.cell? ⟨g2,o2+j*4+1,none⟩=some (.slice bm bn bc)∧W.cell? ⟨g2,o2+j*4+2,none⟩=some (.string x.off)∧W.cell? ⟨g2,o2+j*4+3,none⟩=some (.string x.tim)) (first|go_keep) (first|(go_at_call 74;(with_reducible refine(HC.out _ hB.out.drew).mono ?_);rintro e W2 ⟨rfl,hb2⟩;have d0:W2.cell? ⟨g1,o1+j*4,none⟩=some (.string x.name):=(hb2.cell (p:=⟨g1,o1+j*4,none⟩) hw1).trans C0.out;have d1:W2.cell? ⟨g1,o1+j*4+1,none⟩=some (.slice am an ac):=(hb2.cell (p:=⟨g1,o1+j*4+1,none⟩) hw1).trans C1.out;have d2:W2.cell? ⟨g1,o1+j*4+2,none⟩=some (.string x.off):=(hb2.cell (p:=⟨g1,o1+j*4+2,none⟩) hw1).trans C2.out;have d3:W2.cell? ⟨g1,o1+j*4+3,none⟩=some (.string x.tim):=(hb2.cell (p:=⟨g1,o1+j*4+3,none⟩) hw1).trans C3.out;have d4:W2.cell? ⟨g2,o2+j*4,none⟩=some (.string x.name):=(hb2.cell (p:=⟨g2,o2+j*4,none⟩) hw2).trans C4.out;have d5:W2.cell? ⟨g2,o2+j*4+1,none⟩=some (.slice bm bn bc):=(hb2.cell (p:=⟨g2,o2+j*4+1,none⟩) hw2).trans C5.out;have d6:W2.cell? ⟨g2,o2+j*4+2,none⟩=some (.string x.off):=(hb2.cell (p:=⟨g2,o2+j*4+2,none⟩) hw2).trans C6.out;have d7:W2.cell? ⟨g2,o2+j*4+3,none⟩=some (.string x.tim):=(hb2.cell (p:=⟨g2,o2+j*4+3,none⟩) hw2).trans C7.out;have HB2:=Lib.hid (hB.out.drew.trans (hb2.mono hB.out.size));clear hb2));go_wp2_with fail;exact⟨⟨j+1,Lib.hid hlt,by go_num,HB2⟩,by simp[intOf];omega⟩
  ·have p1:((j:Int)<(xs.length:Int))=False:=eq_false (by omega);go_wp2_with fail;go_ret;exact⟨rfl,hB.out⟩
end Go.Proofs.YtibcjfjacielbaaGreatDoor
