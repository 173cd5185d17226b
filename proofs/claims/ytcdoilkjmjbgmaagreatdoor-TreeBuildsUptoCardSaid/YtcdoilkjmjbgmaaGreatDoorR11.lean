import Derived.Test.YtcdoilkjmjbgmaaGreatDoorR10
import Derived.Deep.RegionWith
import Derived.Test.YtcdoilkjmjbgmaaGreatDoorR08
import Derived.Outline
/- Part of the proof of YtcdoilkjmjbgmaaGreatDoorCardR: TrF TrG TrH TrHb. -/
set_option maxRecDepth 100000
set_option maxHeartbeats 4000000
set_option linter.unusedVariables false
set_option linter.unusedSimpArgs false
namespace Go.Proofs.YtcdoilkjmjbgmaaGreatDoor
open Go.RowKit
open Tryz
variable {u v v1 v2 o i m l:Value} {w w' W wO W':World} {b1 b2 s1 s2 n1 n2 b b' n n' z z' g base size no co gx:Nat} {e1 e2 e e' t:TypeId} {x1 x2 xs ys:List Value} {ss ls9 inc:List ByteArray} {cs ds:Array Value} {ms:List PM} {r:PR} {ao:Option Addr}
def pM (b:Nat) (w:World) (v:Value) (ss:List ByteArray):Prop:=w.ownsRow b 9 1 v ss.length (ss.flatMap qS)
def rn (b:Nat) (w:World) (v:Value) (ms:List PM):Prop:=w.ownsRow b 65 3 v ms.length (ms.flatMap qR)
def gZ (u v:Value):Prop:= ∀g,u.ownBlock=some g→v.ownBlock≠some g
theorem gZ.symm (h:gZ u v):gZ v u:=fun g h1 h2=>h g h2 h1
theorem je (h1:w.ownsRow b1 e1 s1 v1 n1 x1) (h2:w.ownsRow b2 e2 s2 v2 n2 x2) (bZ:e1≠e2):v1.ownBlock=none∨v1.ownBlock≠v2.ownBlock:=by
 rcases h1.2 with⟨rfl,_⟩|⟨g1,aqZ,ar0,rfl,_⟩
 ·exact .inl rfl
 ·rcases h2.2 with⟨rfl,_⟩|⟨g,cap,cur,rfl,_,hg,_⟩
  ·exact .inr (by simp[Value.ownBlock])
  ·exact .inr (cI h1 (g:=g) (t:=e2) (cs:=cur) hg bZ)
theorem cQ (h:w.ownsRow b e z u n xs) (h':w'.ownsRow b' e' z' v n' ys) (hb:w.heap.size≤b'):gZ u v:=fun g h1 h2=>by
 have h3:=(h.lt g h1).2;have h4:=(h'.lt g h2).1;omega
theorem pM.aeG (h:pM b w v ss) (hp:aK w g 44 cs) (a0 a1 a2 a3 a4:Value):
  pM b (((((w.setCell ⟨g,0,none⟩ a0).setCell ⟨g,1,none⟩ a1).setCell ⟨g,2,none⟩ a2).setCell ⟨g,3,none⟩ a3).setCell ⟨g,4,none⟩ a4) v ss:=by
 have p1:=hp.bT 0 a0;have p2:=p1.bT 1 a1;have p3:=p2.bT 2 a2;have p4:=p3.bT 3 a3;exact aD (aD (aD (aD (aD h hp (by decide) a0) p1 (by decide) a1) p2 (by decide) a2) p3 (by decide) a3) p4 (by decide) a4
def xU (gi on:Bool) (o:Value) (card:Int) (i:Value):Value:=.agg #[.bool gi,.bool on,o,.int .i64 card,i]
def Ha (w:World) (gi on:Bool) (card:Int) (ls9 inc:List ByteArray) (e:Ending) (w':World):Prop:=
 ∃o i,e= .returned (xU gi on o card i)∧pM w.heap.size w' o ls9∧pM w.heap.size w' i inc∧gZ o i∧Below w.heap.size w w'
def MI (w:World) (cs ds:Array Value) (W:World):Prop:=Below w.heap.size w W∧aK W w.heap.size 44 cs∧aK W (w.heap.size+1) 44 ds
theorem MI.below {w:World} {cs ds:Array Value} {W W':World} (h:MI w cs ds W) (hb:Below W.heap.size W W'):MI w cs ds W':=
 ⟨h.1.trans (hb.mono h.1.size),h.2.1.below hb h.2.1.lt,h.2.2.below hb h.2.2.lt⟩
theorem cu (h:w.ownsRow base e size v n xs): ∃ao n' c',v= .slice ao n' c':=by
 rcases h.2 with⟨rfl,_⟩|⟨g,cap,cur,rfl,_⟩
 ·exact⟨_,_,_,rfl⟩
 ·exact⟨_,_,_,rfl⟩
def Mo (w:World) (cs ds:Array Value) (W:World) (ss:List ByteArray) (e:Ending) (W':World):Prop:=
 ∃ao n c,e= .returned (.slice ao n c)∧pM W.heap.size W' (.slice ao n c) ss∧MI w cs ds W'∧Below W.heap.size W W'∧w.heap.size+2≤W.heap.size
theorem JV (h:cU b w v ss) (hn:ss.length≤1099511627776) (hm:MI w cs ds W):Calls prog 65 #[v] W (Mo w cs ds W ss):=by
 refine(s7 (h.below hm.1) hn).mono ?_;rintro e w' ⟨v',rfl,h1,h2⟩;obtain⟨ao,n,c,rfl⟩:=cu h1;have ax:=hm.2.2.lt;exact⟨ao,n,c,rfl,h1,hm.below h2,h2,ax⟩
theorem ue (gi on:Bool) (card:Int) (ho:cU b w o ls9) (hi:cU b w i inc) (hn:ls9.length≤1099511627776) (xz:inc.length≤1099511627776):
  Calls prog 64 #[.agg #[.bool gi,.bool on,o,.int .i64 card,i]] w (Ha w gi on card ls9 inc):=by
 obtain⟨cs,bh⟩: ∃cs:Array Value,cs= #[.bool gi,.bool on,o,.int .i64 card,i]:=⟨_,rfl⟩;obtain⟨ds,hds⟩: ∃ds:Array Value,ds= #[.bool false,.bool false,.slice none 0 0,.int .i64 0,.slice none 0 0]:=⟨_,rfl⟩;have HCO:Hid (∀W,MI w cs ds W→Calls prog 65 #[o] W (Mo w cs ds W ls9)):=aa fun W hm=>JV ho hn hm
 have HCI:Hid (∀W,MI w cs ds W→Calls prog 65 #[i] W (Mo w cs ds W inc)):=aa fun W hm=>JV hi xz hm
 have pa:MI w cs ds ((w.alloc (.cells cs 44)).alloc (.cells ds 44)):=
  ⟨((aV _ w).alloc (aS _) _).alloc (by simp) _,(aK.new w _ cs).alloc _,by have h:=aK.new (w.alloc (.cells cs 44)) 44 ds;simpa using h⟩
 obtain⟨w1,ej⟩: ∃w1,w1=(w.alloc (.cells cs 44)).alloc (.cells ds 44):=⟨_,rfl⟩;rw[←ej]at pa;rw[bh,hds]at ej;have HM1:=aa pa;have FZ:=aa ej;have qu:=aa bh;have HDS:=aa hds;have k2:w1.cell? ⟨w.heap.size,2,none⟩=some o:=by rw[pa.2.1.cell,bh];rfl
 have k4:w1.cell? ⟨w.heap.size,4,none⟩=some i:=by rw[pa.2.1.cell,bh];rfl
 have m2:w1.drew.cell? ⟨w.heap.size,2,none⟩=some o:=k2;have m4:w1.drew.cell? ⟨w.heap.size,4,none⟩=some i:=k4;have mm:Hid (MI w cs ds w1.drew):=aa ⟨pa.1.drew,pa.2.1.drew,pa.2.2.drew⟩;clear ho hi pa ej bh hds;go_enter func64,ntmps64;go_wp2_with fail;rw[←FZ.out];go_region_with (first|(go_at_call 65;(with_reducible refine(HCO.out _ (by first|exact Wt.out|exact mm.out)).mono ?_);rintro e wO ⟨ao,no,co,rfl,h1,hm,hb,hle⟩;have o2:wO.cell? ⟨w.heap.size,2,none⟩=some o:=(hm.2.1.cell _).trans (by rw[qu.out];rfl);have o4:wO.cell? ⟨w.heap.size,4,none⟩=some i:=(hm.2.1.cell _).trans (by rw[qu.out];rfl);have p2:=hm.2.1.frozen 2;have p4:=hm.2.1.frozen 4;have Xq:Hid (MI w cs ds wO):=aa hm;(try have HAP:=aa (cQ Zx.out h1 (aS _)).symm);have Zy:Hid (pM w.heap.size wO (.slice ao no co) ls9):=aa (bY h1 (by omega));(try have Zx:Hid (pM w.heap.size wO (.slice ai ni ci) inc):=aa (bf Zx.out hb));clear hm h1 hb hle)|(go_at_call 65;(with_reducible refine(HCI.out _ (by first|exact Xq.out|exact mm.out)).mono ?_);rintro e wI ⟨ai,ni,ci,rfl,h1,hm,hb,hle⟩;have i2:wI.cell? ⟨w.heap.size,2,none⟩=some o:=(hm.2.1.cell _).trans (by rw[qu.out];rfl);have i4:wI.cell? ⟨w.heap.size,4,none⟩=some i:=(hm.2.1.cell _).trans (by rw[qu.out];rfl);have r2:=hm.2.1.frozen 2;have r4:=hm.2.1.frozen 4;have Wt:Hid (MI w cs ds wI):=aa hm;(try have HAP:=aa (cQ Zy.out h1 (aS _)));have Zx:Hid (pM w.heap.size wI (.slice ai ni ci) inc):=aa (bY h1 (by omega));(try have Zy:Hid (pM w.heap.size wI (.slice ao no co) ls9):=aa (bf Zy.out hb));clear hm h1 hb hle))
 all_goals
  have hz:=(Wt.out.2.1.bT 2 (.slice ao no co)).bT 4 (.slice ai ni ci);rw[qu.out]at hz;have hr:=(Wt.out.2.2.FQ (p:=⟨w.heap.size,2,none⟩) (by simp) (.slice ao no co)).FQ (p:=⟨w.heap.size,4,none⟩) (by simp) (.slice ai ni ci);rw[HDS.out]at hr;have qK:=aD (aD (i:=2) Zy.out Wt.out.2.1 (by decide) (.slice ao no co)) (Wt.out.2.1.bT 2 (.slice ao no co)) (i:=4) (by decide) (.slice ai ni ci);have vq:=aD (aD (i:=2) Zx.out Wt.out.2.1 (by decide) (.slice ao no co)) (Wt.out.2.1.bT 2 (.slice ao no co)) (i:=4) (by decide) (.slice ai ni ci);have nc:=(Wt.out.1.setCell (p:=⟨w.heap.size,2,none⟩) (aS _) (.slice ao no co)).setCell (p:=⟨w.heap.size,4,none⟩) (aS _) (.slice ai ni ci);generalize (wI.setCell ⟨w.heap.size,2,none⟩ (.slice ao no co)).setCell ⟨w.heap.size,4,none⟩ (.slice ai ni ci)=w5 at hz hr qK vq nc ⊢
  have c0:w5.cell? ⟨w.heap.size,0,none⟩=some (.bool gi):=(hz.cell 0).trans rfl;have c1:w5.cell? ⟨w.heap.size,1,none⟩=some (.bool on):=(hz.cell 1).trans rfl;have c2:w5.cell? ⟨w.heap.size,2,none⟩=some (.slice ao no co):=(hz.cell 2).trans rfl;have c3:w5.cell? ⟨w.heap.size,3,none⟩=some (.int .i64 card):=(hz.cell 3).trans rfl;have c4:w5.cell? ⟨w.heap.size,4,none⟩=some (.slice ai ni ci):=(hz.cell 4).trans rfl;have e0:w5.cell? ⟨w.heap.size+1,0,none⟩=some (.bool false):=(hr.cell 0).trans rfl;have g0:=hr.frozen 0;have e1:w5.cell? ⟨w.heap.size+1,1,none⟩=some (.bool false):=(hr.cell 1).trans rfl;have g1:=hr.frozen 1;have e2:w5.cell? ⟨w.heap.size+1,2,none⟩=some (.slice none 0 0):=(hr.cell 2).trans rfl;have g2:=hr.frozen 2;have e3:w5.cell? ⟨w.heap.size+1,3,none⟩=some (.int .i64 0):=(hr.cell 3).trans rfl;have g3:=hr.frozen 3;have e4:w5.cell? ⟨w.heap.size+1,4,none⟩=some (.slice none 0 0):=(hr.cell 4).trans rfl;have g4:=hr.frozen 4;have t0:=hr.bT 0 (.bool gi);have t1:=t0.bT 1 (.bool on);have t2:=t1.bT 2 (.slice ao no co);have t3:=t2.bT 3 (.int .i64 card);have t4:=t3.bT 4 (.slice ai ni ci);have HT:=And.intro (aa (t0.cell 0)) (And.intro (aa (t1.cell 1)) (And.intro (aa (t2.cell 2)) (And.intro (aa (t3.cell 3)) (aa (t4.cell 4)))));have DI:=aa HT;clear HT t0 t1 t2 t3 t4;have Wu:=aa hr;have Ep:=aa qK;have qJ:=aa vq;have pc:=aa nc;clear hz hr qK vq nc k2 k4 m2 m4 o2 o4 i2 i4 p2 p4 r2 r4;go_wp2_with fail;obtain⟨s0,s1,s2,s3,s4⟩:=DI.out;have s0:=s0.out;have s1:=s1.out;have s2:=s2.out;have s3:=s3.out;have s4:=s4.out;simp at s0 s1 s2 s3 s4;refine cB (v:=xU gi on (.slice ao no co) card (.slice ai ni ci)) (by simp[results,results64,go_sem,xU,s0,s1,s2,s3,s4]) rfl ⟨_,_,rfl,?_,?_,HAP.out,?_⟩
  ·exact pM.aeG Ep.out Wu.out _ _ _ _ _
  ·exact pM.aeG qJ.out Wu.out _ _ _ _ _
  ·exact((((pc.out.setCell (p:=⟨w.heap.size+1,0,none⟩) (by simp) _).setCell (p:=⟨w.heap.size+1,1,none⟩) (by simp) _).setCell (p:=⟨w.heap.size+1,2,none⟩) (by simp) _).setCell (p:=⟨w.heap.size+1,3,none⟩) (by simp) _).setCell (p:=⟨w.heap.size+1,4,none⟩) (by simp) _
def SI (w:World) (cs:Array Value) (W:World):Prop:=Below w.heap.size w W∧aK W w.heap.size 46 cs
theorem SI.below {w:World} {cs:Array Value} {W W':World} (h:SI w cs W) (hb:Below W.heap.size W W'):SI w cs W':=
 ⟨h.1.trans (hb.mono h.1.size),h.2.below hb h.2.lt⟩
def T5 (w:World) (cs:Array Value) (W:World) (ms:List PM) (e:Ending) (W':World):Prop:=
 ∃ao n c,e= .returned (.slice ao n c)∧rn (w.heap.size+1) W' (.slice ao n c) ms∧SI w cs W'∧Below W.heap.size W W'
theorem Yu (h:eI b w v ms) (hn:ms.length≤1099511627776) (hm:SI w cs W):Calls prog 63 #[v] W (T5 w cs W ms):=by
 refine(Fl (h.below hm.1) hn).mono ?_;rintro e w' ⟨v',rfl,h1,h2⟩;obtain⟨ao,n,c,rfl⟩:=cu h1;have ax:=hm.2.lt;exact⟨ao,n,c,rfl,bY h1 (by omega),hm.below h2,h2⟩
def AN (w:World) (r:PR) (e:Ending) (w':World):Prop:=
 ∃g,e= .returned (.pointer (some ⟨g,0,none⟩))∧ba w.heap.size w' (.iface 84 (.pointer (some ⟨g,0,none⟩))) {zr 3 0 with text:=r.text,ms:=r.ms,off:=r.off,tim:=r.tim} []∧Below w.heap.size w w'
def rY (w:World) (r:PR) (e:Ending) (w':World):Prop:=
 ∃g am nm cm,e= .returned (.pointer (some ⟨g,0,none⟩))∧w.heap.size≤g∧aK w' g 60 #[.string r.text,.slice am nm cm,.string r.off,.string r.tim]∧rn w.heap.size w' (.slice am nm cm) r.ms∧Below w.heap.size w w'
theorem rY.sel {e:Ending} (h:rY w r e w'):AN w r e w':=by
 obtain⟨g,am,nm,cm,rfl,hg,hz,hm,hb⟩:=h;exact⟨g,rfl,.selector _ hg hz.lt r.text r.off r.tim _ r.ms (eI.gp hm) (hz.cell 0) (hz.cell 1) (hz.cell 2) (hz.cell 3),hb⟩
theorem UU (hs:SI w cs wO) (hm:rn (w.heap.size+1) wO (.slice ao no co) r.ms):
  rY w r (.returned (.pointer (some ⟨wO.heap.size,0,none⟩))) (wO.alloc (.cells #[.string r.text,.slice ao no co,.string r.off,.string r.tim] 60)):=by
 have hb:Below wO.heap.size wO (wO.alloc (.cells #[.string r.text,.slice ao no co,.string r.off,.string r.tim] 60)):=(aV _ _).alloc (aS _) _;exact⟨_,ao,no,co,rfl,hs.1.size,aK.new wO 60 #[.string r.text,.slice ao no co,.string r.off,.string r.tim],bY (bf hm hb) (Nat.le_succ _),hs.1.trans (hb.mono hs.1.size)⟩
theorem sx (h:eI b w m r.ms) (hn:r.ms.length≤1099511627776):
  Calls prog 44 #[jB r m o i l] w (rY w r):=by
 obtain⟨cs,bh⟩: ∃cs:Array Value,cs=(lO r m o i l).toArray:=⟨_,rfl⟩;have Xr:Hid (∀W,SI w cs W→Calls prog 63 #[m] W (T5 w cs W r.ms)):=aa fun W hm=>Yu h hn hm
 have pa:SI w cs (w.alloc (.cells cs 46)):=⟨(aV _ w).alloc (aS _) _,aK.new w _ cs⟩;obtain⟨w1,ej⟩: ∃w1,w1=w.alloc (.cells cs 46):=⟨_,rfl⟩;rw[←ej]at pa;rw[bh]at ej;simp only[lO]at ej;have FZ:=aa ej;have qu:=aa bh;have HM1:=aa pa;have hz:=pa.2;rw[bh]at hz;have k3:w1.drew.cell? ⟨w.heap.size,3,none⟩=some (.string r.text):=(hz.cell 3).trans rfl;have k4:w1.drew.cell? ⟨w.heap.size,4,none⟩=some m:=(hz.cell 4).trans rfl;have k7:w1.drew.cell? ⟨w.heap.size,7,none⟩=some (.string r.off):=(hz.cell 7).trans rfl;have k8:w1.drew.cell? ⟨w.heap.size,8,none⟩=some (.string r.tim):=(hz.cell 8).trans rfl;have mm:Hid (SI w cs w1.drew):=aa ⟨pa.1.drew,pa.2.drew⟩;clear h pa ej bh hz;simp only[jB];go_enter func44,ntmps44;go_wp2_with fail;rw[←FZ.out];go_region_with (first|(go_at_call 63;(with_reducible refine(Xr.out _ mm.out).mono ?_);rintro e wO ⟨ao,no,co,rfl,h1,hm,hb⟩;have q3:wO.cell? ⟨w.heap.size,3,none⟩=some (.string r.text):=(hm.2.cell 3).trans (by rw[qu.out];rfl);have q7:wO.cell? ⟨w.heap.size,7,none⟩=some (.string r.off):=(hm.2.cell 7).trans (by rw[qu.out];rfl);have q8:wO.cell? ⟨w.heap.size,8,none⟩=some (.string r.tim):=(hm.2.cell 8).trans (by rw[qu.out];rfl);have Zx:=aa hm;have HMS:=aa h1;clear hm h1 hb))
 all_goals
  have hs:=Zx.out;have hm:=HMS.out;have HF:=aa (UU (r:=r) hs hm);clear hs hm;go_wp2_with fail;go_ret;exact HF.out
theorem uf (h:eI b w m r.ms) (hn:r.ms.length≤1099511627776):
  Calls prog 44 #[jB r m o i l] w (AN w r):=(sx h hn).mono fun _ _ h=>h.sel
theorem Nf (a:Addr) (w:World):Calls prog 270 #[.pointer (some a)] w fun e w'=>e= .returned (.int .i64 1)∧w=w':=by
 go_enter func270,ntmps270;go_wp2_with fail;go_ret;exact⟨rfl,rfl⟩
theorem Ng (a:Addr) (w:World):(method 512 105 (.pointer (some a)) "Kind").run prog w= .ok (270,.pointer (some a)) w:=by kernel_rfl
theorem UW (a:Addr) (w:World):Calls prog 271 #[.pointer (some a)] w fun e w'=>e= .returned (.int .i64 2)∧w=w':=by
 go_enter func271,ntmps271;go_wp2_with fail;go_ret;exact⟨rfl,rfl⟩
theorem UX (a:Addr) (w:World):(method 512 108 (.pointer (some a)) "Kind").run prog w= .ok (271,.pointer (some a)) w:=by kernel_rfl
theorem Hb (a:Addr) (w:World):Calls prog 268 #[.pointer (some a)] w fun e w'=>e= .returned (.int .i64 3)∧w=w':=by
 go_enter func268,ntmps268;go_wp2_with fail;go_ret;exact⟨rfl,rfl⟩
theorem Hc (a:Addr) (w:World):(method 512 84 (.pointer (some a)) "Kind").run prog w= .ok (268,.pointer (some a)) w:=by kernel_rfl
theorem QY (a:Addr) (w:World):Calls prog 269 #[.pointer (some a)] w fun e w'=>e= .returned (.int .i64 4)∧w=w':=by
 go_enter func269,ntmps269;go_wp2_with fail;go_ret;exact⟨rfl,rfl⟩
theorem QZ (a:Addr) (w:World):(method 512 98 (.pointer (some a)) "Kind").run prog w= .ok (269,.pointer (some a)) w:=by kernel_rfl
theorem Hd (a:Addr) (w:World):Calls prog 272 #[.pointer (some a)] w fun e w'=>e= .returned (.int .i64 5)∧w=w':=by
 go_enter func272,ntmps272;go_wp2_with fail;go_ret;exact⟨rfl,rfl⟩
theorem He (a:Addr) (w:World):(method 512 112 (.pointer (some a)) "Kind").run prog w= .ok (272,.pointer (some a)) w:=by kernel_rfl
theorem Q0 (a:Addr) (w:World):Calls prog 273 #[.pointer (some a)] w fun e w'=>e= .returned (.int .i64 6)∧w=w':=by
 go_enter func273,ntmps273;go_wp2_with fail;go_ret;exact⟨rfl,rfl⟩
theorem Q1 (a:Addr) (w:World):(method 512 115 (.pointer (some a)) "Kind").run prog w= .ok (273,.pointer (some a)) w:=by kernel_rfl
theorem Nh (a:Addr) (w:World):Calls prog 274 #[.pointer (some a)] w fun e w'=>e= .returned (.int .i64 7)∧w=w':=by
 go_enter func274,ntmps274;go_wp2_with fail;go_ret;exact⟨rfl,rfl⟩
theorem Ni (a:Addr) (w:World):(method 512 118 (.pointer (some a)) "Kind").run prog w= .ok (274,.pointer (some a)) w:=by kernel_rfl
theorem UY (a:Addr) (w:World):Calls prog 275 #[.pointer (some a)] w fun e w'=>e= .returned (.int .i64 8)∧w=w':=by
 go_enter func275,ntmps275;go_wp2_with fail;go_ret;exact⟨rfl,rfl⟩
theorem UZ (a:Addr) (w:World):(method 512 122 (.pointer (some a)) "Kind").run prog w= .ok (275,.pointer (some a)) w:=by kernel_rfl
theorem ug (a:Addr) (w:World):Calls prog 276 #[.pointer (some a)] w fun e w'=>e= .returned (.int .i64 9)∧w=w':=by
 go_enter func276,ntmps276;go_wp2_with fail;go_ret;exact⟨rfl,rfl⟩
theorem uh (a:Addr) (w:World):(method 512 125 (.pointer (some a)) "Kind").run prog w= .ok (276,.pointer (some a)) w:=by kernel_rfl
def zc:Array Value:=#[.int .i64 0,.int .i64 0,.string ⟨#[]⟩,.string ⟨#[]⟩,.slice none 0 0,.string ⟨#[]⟩,.string ⟨#[]⟩,.string ⟨#[]⟩,.string ⟨#[]⟩,.bool false,.bool false,.bool false,.slice none 0 0,.int .i64 0,.slice none 0 0,.bool false,.slice none 0 0]
structure ff (b:Nat) (w:World) (r:PR) (vm vo vi vl:Value):Prop where
 m:rn b w vm r.ms
 o:pM b w vo r.mls
 i:pM b w vi r.inc
 l:pM b w vl r.labels
 oi:gZ vo vi
 ol:gZ vo vl
 il:gZ vi vl
theorem ff.ls (h:ff b w r m o i l):bw b w r m o i l:=⟨eI.gp h.m,cU.gp h.o,cU.gp h.i,cU.gp h.l⟩
theorem ff.below (h:ff b w r m o i l) (hb:Below w.heap.size w w'):ff b w' r m o i l:=
 ⟨bf h.m hb,bf h.o hb,bf h.i hb,bf h.l hb,h.oi,h.ol,h.il⟩
theorem ff.lo (h:ff b w r m o i l) (hb:b'≤b):ff b' w r m o i l:=
 ⟨bY h.m hb,bY h.o hb,bY h.i hb,bY h.l hb,h.oi,h.ol,h.il⟩
theorem ff.grow (h:ff b w r m o i l) (hg:w.grownBy w' (some g)) (hb:aK w g t cs) (h1:9≠t) (h2:65≠t):ff b w' r m o i l:=
 ⟨oG h.m hg hb h2,oG h.o hg hb h1,oG h.i hg hb h1,oG h.l hg hb h1,h.oi,h.ol,h.il⟩
theorem dw (v:Value):gZ (.slice none 0 0) v:=fun g h=>by simp[Value.ownBlock]at h
theorem fV (b:Nat) (w:World):pM b w (.slice none 0 0) []:=rh _ _ _ _
theorem s8 (b:Nat) (w:World):rn b w (.slice none 0 0) []:=rh _ _ _ _
theorem KD (b:Nat) (w:World) {r:PR} (h1:r.ms=[]) (h2:r.mls=[]) (h3:r.inc=[]) (h4:r.labels=[]):ff b w r (.slice none 0 0) (.slice none 0 0) (.slice none 0 0) (.slice none 0 0):=
 ⟨by rw[h1];exact s8 _ _,by rw[h2];exact fV _ _,by rw[h3];exact fV _ _,by rw[h4];exact fV _ _,dw _,dw _,dw _⟩
def gq (w:World) (r:PR) (e:Ending) (w':World):Prop:=
 ∃m o i l,e= .returned (jB r m o i l)∧ff w.heap.size w' r m o i l∧Below w.heap.size w w'
theorem rZ (h:ff w.heap.size W r m o i l) (hz:aK W w.heap.size t cs) (hg:W.grownBy W' (some w.heap.size)) (hb:Below w.heap.size w W) (h1:9≠t) (h2:65≠t):
  gq w r (.returned (.agg (dS r m o i l))) W':=
 ⟨m,o,i,l,rfl,h.grow hg hz h1 h2,fF hb hg (ju hz.lt) (aS _)⟩
theorem mv (hz:aK W w.heap.size 46 cs) (hg:W.grownBy W' (some w.heap.size)) (hb:Below w.heap.size w W) (h1:r.ms=[]) (h2:r.mls=[]) (h3:r.inc=[]) (h4:r.labels=[]) {v:Value} (hv:v= .agg (dS r (.slice none 0 0) (.slice none 0 0) (.slice none 0 0) (.slice none 0 0))):
  gq w r (.returned v) W':=by
 subst hv;exact rZ (KD _ _ h1 h2 h3 h4) hz hg hb (by decide) (by decide)
theorem aQ:(prog.info? 46).map (·.size)=some 17:=by kernel_rfl
def XI (w:World) (gx:Nat) (cs:Array Value) (W:World):Prop:=Below w.heap.size w W∧aK W w.heap.size 46 zc∧aK W gx 46 cs∧w.heap.size<gx
theorem XI.le (h:XI w gx cs W):w.heap.size≤gx:=ju h.2.2.2
theorem XI.ne (h:XI w gx cs W):w.heap.size≠gx:=Nat.ne_of_lt h.2.2.2
theorem XI.drew {w:World} {gx:Nat} {cs:Array Value} {W:World} (h:XI w gx cs W):XI w gx cs W.drew:=⟨h.1.drew,h.2.1.drew,h.2.2.1.drew,h.2.2.2⟩
theorem XI.below {w:World} {gx:Nat} {cs:Array Value} {W W':World} (h:XI w gx cs W) (hb:Below W.heap.size W W'):XI w gx cs W':=
 ⟨h.1.trans (hb.mono h.1.size),h.2.1.below hb h.2.1.lt,h.2.2.1.below hb h.2.2.1.lt,h.2.2.2⟩
theorem XI.cG (h:XI w gx cs W) (i:Nat) (a:Value):XI w gx (cs.setIfInBounds i a) (W.setCell ⟨gx,i,none⟩ a):=
 ⟨h.1.setCell (p:=⟨gx,i,none⟩) h.le a,h.2.1.FQ (p:=⟨gx,i,none⟩) h.ne a,h.2.2.1.bT i a,h.2.2.2⟩
theorem XI.own (h:XI w gx cs W) {b:Nat} {e:TypeId} {z n:Nat} {v:Value} {xs:List Value} (ho:W.ownsRow b e z v n xs) (bZ:e≠46) (i:Nat) (a:Value):(W.setCell ⟨gx,i,none⟩ a).ownsRow b e z v n xs:=
 aD ho h.2.2.1 bZ a
def Pa (w:World) (gx:Nat) (cs:Array Value) (W:World) (ms:List PM) (e:Ending) (W':World):Prop:=
 ∃ao n c,e= .returned (.slice ao n c)∧rn w.heap.size W' (.slice ao n c) ms∧XI w gx cs W'∧Below W.heap.size W W'
theorem U0 (h:eI b w v ms) (hn:ms.length≤1099511627776) (hm:XI w gx cs W):Calls prog 63 #[v] W (Pa w gx cs W ms):=by
 refine(Fl (h.below hm.1) hn).mono ?_;rintro e w' ⟨v',rfl,h1,h2⟩;obtain⟨ao,n,c,rfl⟩:=cu h1;exact⟨ao,n,c,rfl,bY h1 hm.1.size,hm.below h2,h2⟩
def GL (w:World) (gx:Nat) (cs:Array Value) (W:World) (ss:List ByteArray) (e:Ending) (W':World):Prop:=
 ∃ao n c,e= .returned (.slice ao n c)∧pM w.heap.size W' (.slice ao n c) ss∧XI w gx cs W'∧Below W.heap.size W W'
theorem JW (h:cU b w v ss) (hn:ss.length≤1099511627776) (hm:XI w gx cs W):Calls prog 65 #[v] W (GL w gx cs W ss):=by
 refine(s7 (h.below hm.1) hn).mono ?_;rintro e w' ⟨v',rfl,h1,h2⟩;obtain⟨ao,n,c,rfl⟩:=cu h1;exact⟨ao,n,c,rfl,bY h1 hm.1.size,hm.below h2,h2⟩
def Pb (w:World) (gx:Nat) (cs:Array Value) (W:World) (gi on:Bool) (card:Int) (ls9 inc:List ByteArray) (e:Ending) (W':World):Prop:=
 ∃ao no co ai ni ci,e= .returned (xU gi on (.slice ao no co) card (.slice ai ni ci))∧pM w.heap.size W' (.slice ao no co) ls9∧pM w.heap.size W' (.slice ai ni ci) inc∧gZ (.slice ao no co) (.slice ai ni ci)∧XI w gx cs W'∧Below W.heap.size W W'
theorem Nj (gi on:Bool) (card:Int) (ho:cU b w o ls9) (hi:cU b w i inc) (hn:ls9.length≤1099511627776) (xz:inc.length≤1099511627776) (hm:XI w gx cs W):
  Calls prog 64 #[.agg #[.bool gi,.bool on,o,.int .i64 card,i]] W (Pb w gx cs W gi on card ls9 inc):=by
 refine(ue gi on card (ho.below hm.1) (hi.below hm.1) hn xz).mono ?_;rintro e w' ⟨o',i',rfl,h1,h2,h3,h4⟩;obtain⟨ao,no,co,rfl⟩:=cu h1;obtain⟨ai,ni,ci,rfl⟩:=cu h2;exact⟨ao,no,co,ai,ni,ci,rfl,bY h1 hm.1.size,bY h2 hm.1.size,h3,hm.below h4,h4⟩
theorem Nk (g:Nat) (hb:b≤g) (hg:g<w.heap.size) (t:ByteArray) (c0:w.cell? ⟨g,0,none⟩=some (.string t)):
  Calls prog 36 #[.iface 108 (.pointer (some ⟨g,0,none⟩))] w (gq w {zr 2 0 with text:=t}):=by
 have hm:=UX;have a1:=asNumber;have a2:=pT;have HN:Hid (∀W,Below w.heap.size w W→Calls prog 62 #[.iface 108 (.pointer (some ⟨g,0,none⟩))] W (fS w W [])):=aa fun W hB=>dV (ba.text (b:=b) g hb hg t c0) hB
 go_enter func36,ntmps36;go_wp2_with fail;refine(UW _ _).mono ?_;rintro e w2 ⟨rfl,rfl⟩;go_wp2_with fail;obtain⟨w1,ej⟩: ∃w1,w1=w.alloc (.cells zc 46):=⟨_,rfl⟩;have aW:Below w.heap.size w w1:=by rw[ej];exact(aV w.heap.size w).alloc (aS _) _
 have cK:aK w1 w.heap.size 46 zc:=by rw[ej];exact aK.new _ _ _
 simp only[zc]at ej;rw[←ej];refine(HN.out _ aW).mono ?_;rintro e w2 ⟨s,rfl,hs,aN,_⟩;obtain⟨ao,c,rfl,_⟩:=hs;have bC:=aa (aW.trans (aN.mono aW.size));have jh:=aa (cK.below aN cK.lt);have d0:w2.cell? ⟨g,0,none⟩=some (.string t):=(bC.out.cell (p:=⟨g,0,none⟩) hg).trans c0;have yE:g<w2.heap.size:=gU hg bC.out.size;clear aW aN cK ej c0;go_wp2_with (refine ay rfl 46 (.tmp 2) (.tmp 142) rfl w.heap.size _ rfl rfl (jh.out.alloc _) (by kernel_rfl) rfl rfl ?_);intro W' hz jw;go_wp2_with fail;exact cB (aZ results36 rfl hz underlying46 (by kernel_rfl)) rfl (mv (jh.out.alloc _) jw (bC.out.alloc bC.out.size _) rfl rfl rfl rfl rfl)
