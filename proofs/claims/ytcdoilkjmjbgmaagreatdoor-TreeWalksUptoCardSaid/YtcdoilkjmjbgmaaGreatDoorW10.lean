import Derived.Test.YtcdoilkjmjbgmaaGreatDoorW09
import Derived.Deep.RegionWith
import Derived.Test.YtcdoilkjmjbgmaaGreatDoorW07
import Derived.Outline
/- Part of the proof of YtcdoilkjmjbgmaaGreatDoorCardX: TrF TrG TrH TrHb TkB. -/
set_option maxRecDepth 100000
set_option maxHeartbeats 4000000
set_option linter.unusedVariables false
set_option linter.unusedSimpArgs false
namespace Go.Proofs.YtcdoilkjmjbgmaaGreatDoor
open Go.RowKit
open Go.Proofs.Tryz
variable {u v v1 v2 o i m l M:Value} {w w' W wO W':World} {b1 b2 s1 s2 n1 n2 b b' n n' z z' g base size no co gx j:Nat} {e1 e2 e e' t:TypeId} {x1 x2 xs ys:List Value} {ss inc:List ByteArray} {cs ds:Array Value} {ms:List PM} {r:PR} {ao:Option Addr}
def pW (b:Nat) (w:World) (v:Value) (ss:List ByteArray):Prop:=w.ownsRow b 9 1 v ss.length (ss.flatMap lK)
def xy (b:Nat) (w:World) (v:Value) (ms:List PM):Prop:=w.ownsRow b 65 3 v ms.length (ms.flatMap og)
def cJ (u v:Value):Prop:= ∀g,u.ownBlock=some g→v.ownBlock≠some g
theorem cJ.symm (h:cJ u v):cJ v u:=fun g h1 h2=>h g h2 h1
theorem cI (h1:w.ownsRow b1 e1 s1 v1 n1 x1) (h2:w.ownsRow b2 e2 s2 v2 n2 x2) (bC:e1≠e2):v1.ownBlock=none∨v1.ownBlock≠v2.ownBlock:=by
 rcases h1.2 with⟨rfl,_⟩|⟨g1,asm,asn,rfl,_⟩
 ·exact .inl rfl
 ·rcases h2.2 with⟨rfl,_⟩|⟨g,cap,cur,rfl,_,hg,_⟩
  ·exact .inr (by simp[Value.ownBlock])
  ·exact .inr (dL h1 (g:=g) (t:=e2) (cs:=cur) hg bC)
theorem cO (h:w.ownsRow b e z u n xs) (h':w'.ownsRow b' e' z' v n' ys) (hb:w.heap.size≤b'):cJ u v:=fun g h1 h2=>by
 have h3:=(h.lt g h1).2;have h4:=(h'.lt g h2).1;omega
theorem pW.afw (h:pW b w v ss) (hp:aH w g 44 cs) (a0 a1 a2 a3 a4:Value):
  pW b (((((w.setCell ⟨g,0,none⟩ a0).setCell ⟨g,1,none⟩ a1).setCell ⟨g,2,none⟩ a2).setCell ⟨g,3,none⟩ a3).setCell ⟨g,4,none⟩ a4) v ss:=by
 have p1:=hp.dw 0 a0;have p2:=p1.dw 1 a1;have p3:=p2.dw 2 a2;have p4:=p3.dw 3 a3;exact aF (aF (aF (aF (aF h hp (by decide) a0) p1 (by decide) a1) p2 (by decide) a2) p3 (by decide) a3) p4 (by decide) a4
def xG (gi on:Bool) (o:Value) (card:Int) (i:Value):Value:=.agg #[.bool gi,.bool on,o,.int .i64 card,i]
def GY (w:World) (gi on:Bool) (card:Int) (ls inc:List ByteArray) (e:Ending) (w':World):Prop:=
 ∃o i,e= .returned (xG gi on o card i)∧pW w.heap.size w' o ls∧pW w.heap.size w' i inc∧cJ o i∧Below w.heap.size w w'
def MI (w:World) (cs ds:Array Value) (W:World):Prop:=Below w.heap.size w W∧aH W w.heap.size 44 cs∧aH W (w.heap.size+1) 44 ds
theorem MI.below {w:World} {cs ds:Array Value} {W W':World} (h:MI w cs ds W) (hb:Below W.heap.size W W'):MI w cs ds W':=
 ⟨h.1.trans (hb.mono h.1.size),h.2.1.below hb h.2.1.lt,h.2.2.below hb h.2.2.lt⟩
theorem bA (h:w.ownsRow base e size v n xs): ∃ao n' c',v= .slice ao n' c':=by
 rcases h.2 with⟨rfl,_⟩|⟨g,cap,cur,rfl,_⟩
 ·exact⟨_,_,_,rfl⟩
 ·exact⟨_,_,_,rfl⟩
def L9 (w:World) (cs ds:Array Value) (W:World) (ss:List ByteArray) (e:Ending) (W':World):Prop:=
 ∃ao n c,e= .returned (.slice ao n c)∧pW W.heap.size W' (.slice ao n c) ss∧MI w cs ds W'∧Below W.heap.size W W'∧w.heap.size+2≤W.heap.size
theorem JD (h:cL b w v ss) (hn:ss.length≤1099511627776) (hm:MI w cs ds W):Calls prog 65 #[v] W (L9 w cs ds W ss):=by
 refine(sN (h.below hm.1) hn).mono ?_;rintro e w' ⟨v',rfl,h1,h2⟩;obtain⟨ao,n,c,rfl⟩:=bA h1;have au:=hm.2.2.lt;exact⟨ao,n,c,rfl,h1,hm.below h2,h2,au⟩
theorem tP {ls:List ByteArray} (gi on:Bool) (card:Int) (ho:cL b w o ls) (hi:cL b w i inc) (hn:ls.length≤1099511627776) (xf:inc.length≤1099511627776):
  Calls prog 64 #[.agg #[.bool gi,.bool on,o,.int .i64 card,i]] w (GY w gi on card ls inc):=by
 obtain⟨cs,aZ⟩: ∃cs:Array Value,cs= #[.bool gi,.bool on,o,.int .i64 card,i]:=⟨_,rfl⟩;obtain⟨ds,Sl⟩: ∃ds:Array Value,ds= #[.bool false,.bool false,.slice none 0 0,.int .i64 0,.slice none 0 0]:=⟨_,rfl⟩;have HCO:Hid (∀W,MI w cs ds W→Calls prog 65 #[o] W (L9 w cs ds W ls)):=aa fun W hm=>JD ho hn hm
 have HCI:Hid (∀W,MI w cs ds W→Calls prog 65 #[i] W (L9 w cs ds W inc)):=aa fun W hm=>JD hi xf hm
 have ue:MI w cs ds ((w.alloc (.cells cs 44)).alloc (.cells ds 44)):=
  ⟨((aS _ w).alloc (aP _) _).alloc (by simp) _,(aH.new w _ cs).alloc _,by have h:=aH.new (w.alloc (.cells cs 44)) 44 ds;simpa using h⟩
 obtain⟨w1,ey⟩: ∃w1,w1=(w.alloc (.cells cs 44)).alloc (.cells ds 44):=⟨_,rfl⟩;rw[←ey]at ue;rw[aZ,Sl]at ey;have HM1:=aa ue;have FO:=aa ey;have qC:=aa aZ;have HDS:=aa Sl;have k2:w1.cell? ⟨w.heap.size,2,none⟩=some o:=by rw[ue.2.1.cell,aZ];rfl
 have k4:w1.cell? ⟨w.heap.size,4,none⟩=some i:=by rw[ue.2.1.cell,aZ];rfl
 have m2:w1.drew.cell? ⟨w.heap.size,2,none⟩=some o:=k2;have m4:w1.drew.cell? ⟨w.heap.size,4,none⟩=some i:=k4;have mm:Hid (MI w cs ds w1.drew):=aa ⟨ue.1.drew,ue.2.1.drew,ue.2.2.drew⟩;clear ho hi ue ey aZ Sl;go_enter func64,ntmps64;go_wp2_with fail;rw[←FO.out];go_region_with (first|(go_at_call 65;(with_reducible refine(HCO.out _ (by first|exact WN.out|exact mm.out)).mono ?_);rintro e wO ⟨ao,no,co,rfl,h1,hm,hb,hle⟩;have o2:wO.cell? ⟨w.heap.size,2,none⟩=some o:=(hm.2.1.cell _).trans (by rw[qC.out];rfl);have o4:wO.cell? ⟨w.heap.size,4,none⟩=some i:=(hm.2.1.cell _).trans (by rw[qC.out];rfl);have p2:=hm.2.1.frozen 2;have p4:=hm.2.1.frozen 4;have Xz:Hid (MI w cs ds wO):=aa hm;(try have HAP:=aa (cO ZX.out h1 (aP _)).symm);have ZY:Hid (pW w.heap.size wO (.slice ao no co) ls):=aa (bW h1 (by omega));(try have ZX:Hid (pW w.heap.size wO (.slice ai ni ci) inc):=aa (aD ZX.out hb));clear hm h1 hb hle)|(go_at_call 65;(with_reducible refine(HCI.out _ (by first|exact Xz.out|exact mm.out)).mono ?_);rintro e wI ⟨ai,ni,ci,rfl,h1,hm,hb,hle⟩;have i2:wI.cell? ⟨w.heap.size,2,none⟩=some o:=(hm.2.1.cell _).trans (by rw[qC.out];rfl);have i4:wI.cell? ⟨w.heap.size,4,none⟩=some i:=(hm.2.1.cell _).trans (by rw[qC.out];rfl);have r2:=hm.2.1.frozen 2;have r4:=hm.2.1.frozen 4;have WN:Hid (MI w cs ds wI):=aa hm;(try have HAP:=aa (cO ZY.out h1 (aP _)));have ZX:Hid (pW w.heap.size wI (.slice ai ni ci) inc):=aa (bW h1 (by omega));(try have ZY:Hid (pW w.heap.size wI (.slice ao no co) ls):=aa (aD ZY.out hb));clear hm h1 hb hle))
 all_goals
  have hz:=(WN.out.2.1.dw 2 (.slice ao no co)).dw 4 (.slice ai ni ci);rw[qC.out]at hz;have hr:=(WN.out.2.2.Dm (p:=⟨w.heap.size,2,none⟩) (by simp) (.slice ao no co)).Dm (p:=⟨w.heap.size,4,none⟩) (by simp) (.slice ai ni ci);rw[HDS.out]at hr;have oz:=aF (aF (i:=2) ZY.out WN.out.2.1 (by decide) (.slice ao no co)) (WN.out.2.1.dw 2 (.slice ao no co)) (i:=4) (by decide) (.slice ai ni ci);have uV:=aF (aF (i:=2) ZX.out WN.out.2.1 (by decide) (.slice ao no co)) (WN.out.2.1.dw 2 (.slice ao no co)) (i:=4) (by decide) (.slice ai ni ci);have mn:=(WN.out.1.setCell (p:=⟨w.heap.size,2,none⟩) (aP _) (.slice ao no co)).setCell (p:=⟨w.heap.size,4,none⟩) (aP _) (.slice ai ni ci);generalize (wI.setCell ⟨w.heap.size,2,none⟩ (.slice ao no co)).setCell ⟨w.heap.size,4,none⟩ (.slice ai ni ci)=w5 at hz hr oz uV mn ⊢
  have c0:w5.cell? ⟨w.heap.size,0,none⟩=some (.bool gi):=(hz.cell 0).trans rfl;have c1:w5.cell? ⟨w.heap.size,1,none⟩=some (.bool on):=(hz.cell 1).trans rfl;have c2:w5.cell? ⟨w.heap.size,2,none⟩=some (.slice ao no co):=(hz.cell 2).trans rfl;have c3:w5.cell? ⟨w.heap.size,3,none⟩=some (.int .i64 card):=(hz.cell 3).trans rfl;have c4:w5.cell? ⟨w.heap.size,4,none⟩=some (.slice ai ni ci):=(hz.cell 4).trans rfl;have e0:w5.cell? ⟨w.heap.size+1,0,none⟩=some (.bool false):=(hr.cell 0).trans rfl;have g0:=hr.frozen 0;have e1:w5.cell? ⟨w.heap.size+1,1,none⟩=some (.bool false):=(hr.cell 1).trans rfl;have g1:=hr.frozen 1;have e2:w5.cell? ⟨w.heap.size+1,2,none⟩=some (.slice none 0 0):=(hr.cell 2).trans rfl;have g2:=hr.frozen 2;have e3:w5.cell? ⟨w.heap.size+1,3,none⟩=some (.int .i64 0):=(hr.cell 3).trans rfl;have g3:=hr.frozen 3;have e4:w5.cell? ⟨w.heap.size+1,4,none⟩=some (.slice none 0 0):=(hr.cell 4).trans rfl;have g4:=hr.frozen 4;have t0:=hr.dw 0 (.bool gi);have t1:=t0.dw 1 (.bool on);have t2:=t1.dw 2 (.slice ao no co);have t3:=t2.dw 3 (.int .i64 card);have t4:=t3.dw 4 (.slice ai ni ci);have HT:=And.intro (aa (t0.cell 0)) (And.intro (aa (t1.cell 1)) (And.intro (aa (t2.cell 2)) (And.intro (aa (t3.cell 3)) (aa (t4.cell 4)))));have Dv:=aa HT;clear HT t0 t1 t2 t3 t4;have ZZ:=aa hr;have yt:=aa oz;have nt:=aa uV;have pC:=aa mn;clear hz hr oz uV mn k2 k4 m2 m4 o2 o4 i2 i4 p2 p4 r2 r4;go_wp2_with fail;obtain⟨s0,s1,s2,s3,s4⟩:=Dv.out;have s0:=s0.out;have s1:=s1.out;have s2:=s2.out;have s3:=s3.out;have s4:=s4.out;simp at s0 s1 s2 s3 s4;refine cz (v:=xG gi on (.slice ao no co) card (.slice ai ni ci)) (by simp[results,results64,go_sem,xG,s0,s1,s2,s3,s4]) rfl ⟨_,_,rfl,?_,?_,HAP.out,?_⟩
  ·exact pW.afw yt.out ZZ.out _ _ _ _ _
  ·exact pW.afw nt.out ZZ.out _ _ _ _ _
  ·exact((((pC.out.setCell (p:=⟨w.heap.size+1,0,none⟩) (by simp) _).setCell (p:=⟨w.heap.size+1,1,none⟩) (by simp) _).setCell (p:=⟨w.heap.size+1,2,none⟩) (by simp) _).setCell (p:=⟨w.heap.size+1,3,none⟩) (by simp) _).setCell (p:=⟨w.heap.size+1,4,none⟩) (by simp) _
def SI (w:World) (cs:Array Value) (W:World):Prop:=Below w.heap.size w W∧aH W w.heap.size 46 cs
theorem SI.below {w:World} {cs:Array Value} {W W':World} (h:SI w cs W) (hb:Below W.heap.size W W'):SI w cs W':=
 ⟨h.1.trans (hb.mono h.1.size),h.2.below hb h.2.lt⟩
def Uc (w:World) (cs:Array Value) (W:World) (ms:List PM) (e:Ending) (W':World):Prop:=
 ∃ao n c,e= .returned (.slice ao n c)∧xy (w.heap.size+1) W' (.slice ao n c) ms∧SI w cs W'∧Below W.heap.size W W'
theorem YR (h:fU b w v ms) (hn:ms.length≤1099511627776) (hm:SI w cs W):Calls prog 63 #[v] W (Uc w cs W ms):=by
 refine(Fe (h.below hm.1) hn).mono ?_;rintro e w' ⟨v',rfl,h1,h2⟩;obtain⟨ao,n,c,rfl⟩:=bA h1;have au:=hm.2.lt;exact⟨ao,n,c,rfl,bW h1 (by omega),hm.below h2,h2⟩
def AE (w:World) (r:PR) (e:Ending) (w':World):Prop:=
 ∃g,e= .returned (.pointer (some ⟨g,0,none⟩))∧aY w.heap.size w' (.iface 84 (.pointer (some ⟨g,0,none⟩))) {zr 3 0 with text:=r.text,ms:=r.ms,off:=r.off,tim:=r.tim} []∧Below w.heap.size w w'
def wm (w:World) (r:PR) (e:Ending) (w':World):Prop:=
 ∃g am nm cm,e= .returned (.pointer (some ⟨g,0,none⟩))∧w.heap.size≤g∧aH w' g 60 #[.string r.text,.slice am nm cm,.string r.off,.string r.tim]∧xy w.heap.size w' (.slice am nm cm) r.ms∧Below w.heap.size w w'
theorem wm.sel {e:Ending} (h:wm w r e w'):AE w r e w':=by
 obtain⟨g,am,nm,cm,rfl,hg,hz,hm,hb⟩:=h;exact⟨g,rfl,.selector _ hg hz.lt r.text r.off r.tim _ r.ms (fU.jy hm) (hz.cell 0) (hz.cell 1) (hz.cell 2) (hz.cell 3),hb⟩
theorem U3 (hs:SI w cs wO) (hm:xy (w.heap.size+1) wO (.slice ao no co) r.ms):
  wm w r (.returned (.pointer (some ⟨wO.heap.size,0,none⟩))) (wO.alloc (.cells #[.string r.text,.slice ao no co,.string r.off,.string r.tim] 60)):=by
 have hb:Below wO.heap.size wO (wO.alloc (.cells #[.string r.text,.slice ao no co,.string r.off,.string r.tim] 60)):=(aS _ _).alloc (aP _) _;exact⟨_,ao,no,co,rfl,hs.1.size,aH.new wO 60 #[.string r.text,.slice ao no co,.string r.off,.string r.tim],bW (aD hm hb) (Nat.le_succ _),hs.1.trans (hb.mono hs.1.size)⟩
theorem CY (h:fU b w m r.ms) (hn:r.ms.length≤1099511627776):
  Calls prog 44 #[jP r m o i l] w (wm w r):=by
 obtain⟨cs,aZ⟩: ∃cs:Array Value,cs=(lF r m o i l).toArray:=⟨_,rfl⟩;have XA:Hid (∀W,SI w cs W→Calls prog 63 #[m] W (Uc w cs W r.ms)):=aa fun W hm=>YR h hn hm
 have ue:SI w cs (w.alloc (.cells cs 46)):=⟨(aS _ w).alloc (aP _) _,aH.new w _ cs⟩;obtain⟨w1,ey⟩: ∃w1,w1=w.alloc (.cells cs 46):=⟨_,rfl⟩;rw[←ey]at ue;rw[aZ]at ey;simp only[lF]at ey;have FO:=aa ey;have qC:=aa aZ;have HM1:=aa ue;have hz:=ue.2;rw[aZ]at hz;have k3:w1.drew.cell? ⟨w.heap.size,3,none⟩=some (.string r.text):=(hz.cell 3).trans rfl;have k4:w1.drew.cell? ⟨w.heap.size,4,none⟩=some m:=(hz.cell 4).trans rfl;have k7:w1.drew.cell? ⟨w.heap.size,7,none⟩=some (.string r.off):=(hz.cell 7).trans rfl;have k8:w1.drew.cell? ⟨w.heap.size,8,none⟩=some (.string r.tim):=(hz.cell 8).trans rfl;have mm:Hid (SI w cs w1.drew):=aa ⟨ue.1.drew,ue.2.drew⟩;clear h ue ey aZ hz;simp only[jP];go_enter func44,ntmps44;go_wp2_with fail;rw[←FO.out];go_region_with (first|(go_at_call 63;(with_reducible refine(XA.out _ mm.out).mono ?_);rintro e wO ⟨ao,no,co,rfl,h1,hm,hb⟩;have q3:wO.cell? ⟨w.heap.size,3,none⟩=some (.string r.text):=(hm.2.cell 3).trans (by rw[qC.out];rfl);have q7:wO.cell? ⟨w.heap.size,7,none⟩=some (.string r.off):=(hm.2.cell 7).trans (by rw[qC.out];rfl);have q8:wO.cell? ⟨w.heap.size,8,none⟩=some (.string r.tim):=(hm.2.cell 8).trans (by rw[qC.out];rfl);have ZX:=aa hm;have HMS:=aa h1;clear hm h1 hb))
 all_goals
  have hs:=ZX.out;have hm:=HMS.out;have HF:=aa (U3 (r:=r) hs hm);clear hs hm;go_wp2_with fail;go_ret;exact HF.out
theorem tQ (h:fU b w m r.ms) (hn:r.ms.length≤1099511627776):
  Calls prog 44 #[jP r m o i l] w (AE w r):=(CY h hn).mono fun _ _ h=>h.sel
theorem MR (a:Addr) (w:World):Calls prog 270 #[.pointer (some a)] w fun e w'=>e= .returned (.int .i64 1)∧w=w':=by
 go_enter func270,ntmps270;go_wp2_with fail;go_ret;exact⟨rfl,rfl⟩
theorem MS (a:Addr) (w:World):(method 512 105 (.pointer (some a)) "Kind").run prog w= .ok (270,.pointer (some a)) w:=by kernel_rfl
theorem U4 (a:Addr) (w:World):Calls prog 271 #[.pointer (some a)] w fun e w'=>e= .returned (.int .i64 2)∧w=w':=by
 go_enter func271,ntmps271;go_wp2_with fail;go_ret;exact⟨rfl,rfl⟩
theorem U5 (a:Addr) (w:World):(method 512 108 (.pointer (some a)) "Kind").run prog w= .ok (271,.pointer (some a)) w:=by kernel_rfl
theorem GZ (a:Addr) (w:World):Calls prog 268 #[.pointer (some a)] w fun e w'=>e= .returned (.int .i64 3)∧w=w':=by
 go_enter func268,ntmps268;go_wp2_with fail;go_ret;exact⟨rfl,rfl⟩
theorem G0 (a:Addr) (w:World):(method 512 84 (.pointer (some a)) "Kind").run prog w= .ok (268,.pointer (some a)) w:=by kernel_rfl
theorem QP (a:Addr) (w:World):Calls prog 269 #[.pointer (some a)] w fun e w'=>e= .returned (.int .i64 4)∧w=w':=by
 go_enter func269,ntmps269;go_wp2_with fail;go_ret;exact⟨rfl,rfl⟩
theorem QQ (a:Addr) (w:World):(method 512 98 (.pointer (some a)) "Kind").run prog w= .ok (269,.pointer (some a)) w:=by kernel_rfl
theorem G1 (a:Addr) (w:World):Calls prog 272 #[.pointer (some a)] w fun e w'=>e= .returned (.int .i64 5)∧w=w':=by
 go_enter func272,ntmps272;go_wp2_with fail;go_ret;exact⟨rfl,rfl⟩
theorem G2 (a:Addr) (w:World):(method 512 112 (.pointer (some a)) "Kind").run prog w= .ok (272,.pointer (some a)) w:=by kernel_rfl
theorem QR (a:Addr) (w:World):Calls prog 273 #[.pointer (some a)] w fun e w'=>e= .returned (.int .i64 6)∧w=w':=by
 go_enter func273,ntmps273;go_wp2_with fail;go_ret;exact⟨rfl,rfl⟩
theorem QS (a:Addr) (w:World):(method 512 115 (.pointer (some a)) "Kind").run prog w= .ok (273,.pointer (some a)) w:=by kernel_rfl
theorem MT (a:Addr) (w:World):Calls prog 274 #[.pointer (some a)] w fun e w'=>e= .returned (.int .i64 7)∧w=w':=by
 go_enter func274,ntmps274;go_wp2_with fail;go_ret;exact⟨rfl,rfl⟩
theorem MU (a:Addr) (w:World):(method 512 118 (.pointer (some a)) "Kind").run prog w= .ok (274,.pointer (some a)) w:=by kernel_rfl
theorem U6 (a:Addr) (w:World):Calls prog 275 #[.pointer (some a)] w fun e w'=>e= .returned (.int .i64 8)∧w=w':=by
 go_enter func275,ntmps275;go_wp2_with fail;go_ret;exact⟨rfl,rfl⟩
theorem U7 (a:Addr) (w:World):(method 512 122 (.pointer (some a)) "Kind").run prog w= .ok (275,.pointer (some a)) w:=by kernel_rfl
theorem tR (a:Addr) (w:World):Calls prog 276 #[.pointer (some a)] w fun e w'=>e= .returned (.int .i64 9)∧w=w':=by
 go_enter func276,ntmps276;go_wp2_with fail;go_ret;exact⟨rfl,rfl⟩
theorem tS (a:Addr) (w:World):(method 512 125 (.pointer (some a)) "Kind").run prog w= .ok (276,.pointer (some a)) w:=by kernel_rfl
def zc:Array Value:=#[.int .i64 0,.int .i64 0,.string ⟨#[]⟩,.string ⟨#[]⟩,.slice none 0 0,.string ⟨#[]⟩,.string ⟨#[]⟩,.string ⟨#[]⟩,.string ⟨#[]⟩,.bool false,.bool false,.bool false,.slice none 0 0,.int .i64 0,.slice none 0 0,.bool false,.slice none 0 0]
structure dA (b:Nat) (w:World) (r:PR) (vm vo vi vl:Value):Prop where
 m:xy b w vm r.ms
 o:pW b w vo r.mls
 i:pW b w vi r.inc
 l:pW b w vl r.labels
 oi:cJ vo vi
 ol:cJ vo vl
 il:cJ vi vl
theorem dA.ls (h:dA b w r m o i l):bw b w r m o i l:=⟨fU.jy h.m,cL.jy h.o,cL.jy h.i,cL.jy h.l⟩
theorem dA.below (h:dA b w r m o i l) (hb:Below w.heap.size w w'):dA b w' r m o i l:=
 ⟨aD h.m hb,aD h.o hb,aD h.i hb,aD h.l hb,h.oi,h.ol,h.il⟩
theorem dA.lo (h:dA b w r m o i l) (hb:b'≤b):dA b' w r m o i l:=
 ⟨bW h.m hb,bW h.o hb,bW h.i hb,bW h.l hb,h.oi,h.ol,h.il⟩
theorem dA.grow (h:dA b w r m o i l) (hg:w.grownBy w' (some g)) (hb:aH w g t cs) (h1:9≠t) (h2:65≠t):dA b w' r m o i l:=
 ⟨vV h.m hg hb h2,vV h.o hg hb h1,vV h.i hg hb h1,vV h.l hg hb h1,h.oi,h.ol,h.il⟩
theorem dm (v:Value):cJ (.slice none 0 0) v:=fun g h=>by simp[Value.ownBlock]at h
theorem fL (b:Nat) (w:World):pW b w (.slice none 0 0) []:=ur _ _ _ _
theorem sO (b:Nat) (w:World):xy b w (.slice none 0 0) []:=ur _ _ _ _
theorem Kk (b:Nat) (w:World) {r:PR} (h1:r.ms=[]) (h2:r.mls=[]) (h3:r.inc=[]) (h4:r.labels=[]):dA b w r (.slice none 0 0) (.slice none 0 0) (.slice none 0 0) (.slice none 0 0):=
 ⟨by rw[h1];exact sO _ _,by rw[h2];exact fL _ _,by rw[h3];exact fL _ _,by rw[h4];exact fL _ _,dm _,dm _,dm _⟩
def gM (w:World) (r:PR) (e:Ending) (w':World):Prop:=
 ∃m o i l,e= .returned (jP r m o i l)∧dA w.heap.size w' r m o i l∧Below w.heap.size w w'
theorem rP (h:dA w.heap.size W r m o i l) (hz:aH W w.heap.size t cs) (hg:W.grownBy W' (some w.heap.size)) (hb:Below w.heap.size w W) (h1:9≠t) (h2:65≠t):
  gM w r (.returned (.agg (dN r m o i l))) W':=
 ⟨m,o,i,l,rfl,h.grow hg hz h1 h2,ic hb hg (jt hz.lt) (aP _)⟩
theorem mg (hz:aH W w.heap.size 46 cs) (hg:W.grownBy W' (some w.heap.size)) (hb:Below w.heap.size w W) (h1:r.ms=[]) (h2:r.mls=[]) (h3:r.inc=[]) (h4:r.labels=[]) {v:Value} (hv:v= .agg (dN r (.slice none 0 0) (.slice none 0 0) (.slice none 0 0) (.slice none 0 0))):
  gM w r (.returned v) W':=by
 subst hv;exact rP (Kk _ _ h1 h2 h3 h4) hz hg hb (by decide) (by decide)
theorem aN:(prog.info? 46).map (·.size)=some 17:=by kernel_rfl
def XI (w:World) (gx:Nat) (cs:Array Value) (W:World):Prop:=Below w.heap.size w W∧aH W w.heap.size 46 zc∧aH W gx 46 cs∧w.heap.size<gx
theorem XI.le (h:XI w gx cs W):w.heap.size≤gx:=jt h.2.2.2
theorem XI.ne (h:XI w gx cs W):w.heap.size≠gx:=Nat.ne_of_lt h.2.2.2
theorem XI.drew {w:World} {gx:Nat} {cs:Array Value} {W:World} (h:XI w gx cs W):XI w gx cs W.drew:=⟨h.1.drew,h.2.1.drew,h.2.2.1.drew,h.2.2.2⟩
theorem XI.below {w:World} {gx:Nat} {cs:Array Value} {W W':World} (h:XI w gx cs W) (hb:Below W.heap.size W W'):XI w gx cs W':=
 ⟨h.1.trans (hb.mono h.1.size),h.2.1.below hb h.2.1.lt,h.2.2.1.below hb h.2.2.1.lt,h.2.2.2⟩
theorem XI.ct (h:XI w gx cs W) (i:Nat) (a:Value):XI w gx (cs.setIfInBounds i a) (W.setCell ⟨gx,i,none⟩ a):=
 ⟨h.1.setCell (p:=⟨gx,i,none⟩) h.le a,h.2.1.Dm (p:=⟨gx,i,none⟩) h.ne a,h.2.2.1.dw i a,h.2.2.2⟩
theorem XI.own (h:XI w gx cs W) {b:Nat} {e:TypeId} {z n:Nat} {v:Value} {xs:List Value} (ho:W.ownsRow b e z v n xs) (bC:e≠46) (i:Nat) (a:Value):(W.setCell ⟨gx,i,none⟩ a).ownsRow b e z v n xs:=
 aF ho h.2.2.1 bC a
def O0 (w:World) (gx:Nat) (cs:Array Value) (W:World) (ms:List PM) (e:Ending) (W':World):Prop:=
 ∃ao n c,e= .returned (.slice ao n c)∧xy w.heap.size W' (.slice ao n c) ms∧XI w gx cs W'∧Below W.heap.size W W'
theorem U8 (h:fU b w v ms) (hn:ms.length≤1099511627776) (hm:XI w gx cs W):Calls prog 63 #[v] W (O0 w gx cs W ms):=by
 refine(Fe (h.below hm.1) hn).mono ?_;rintro e w' ⟨v',rfl,h1,h2⟩;obtain⟨ao,n,c,rfl⟩:=bA h1;exact⟨ao,n,c,rfl,bW h1 hm.1.size,hm.below h2,h2⟩
def Gy (w:World) (gx:Nat) (cs:Array Value) (W:World) (ss:List ByteArray) (e:Ending) (W':World):Prop:=
 ∃ao n c,e= .returned (.slice ao n c)∧pW w.heap.size W' (.slice ao n c) ss∧XI w gx cs W'∧Below W.heap.size W W'
theorem JE (h:cL b w v ss) (hn:ss.length≤1099511627776) (hm:XI w gx cs W):Calls prog 65 #[v] W (Gy w gx cs W ss):=by
 refine(sN (h.below hm.1) hn).mono ?_;rintro e w' ⟨v',rfl,h1,h2⟩;obtain⟨ao,n,c,rfl⟩:=bA h1;exact⟨ao,n,c,rfl,bW h1 hm.1.size,hm.below h2,h2⟩
def O1 (w:World) (gx:Nat) (cs:Array Value) (W:World) (gi on:Bool) (card:Int) (ls inc:List ByteArray) (e:Ending) (W':World):Prop:=
 ∃ao no co ai ni ci,e= .returned (xG gi on (.slice ao no co) card (.slice ai ni ci))∧pW w.heap.size W' (.slice ao no co) ls∧pW w.heap.size W' (.slice ai ni ci) inc∧cJ (.slice ao no co) (.slice ai ni ci)∧XI w gx cs W'∧Below W.heap.size W W'
theorem MV {ls:List ByteArray} (gi on:Bool) (card:Int) (ho:cL b w o ls) (hi:cL b w i inc) (hn:ls.length≤1099511627776) (xf:inc.length≤1099511627776) (hm:XI w gx cs W):
  Calls prog 64 #[.agg #[.bool gi,.bool on,o,.int .i64 card,i]] W (O1 w gx cs W gi on card ls inc):=by
 refine(tP gi on card (ho.below hm.1) (hi.below hm.1) hn xf).mono ?_;rintro e w' ⟨o',i',rfl,h1,h2,h3,h4⟩;obtain⟨ao,no,co,rfl⟩:=bA h1;obtain⟨ai,ni,ci,rfl⟩:=bA h2;exact⟨ao,no,co,ai,ni,ci,rfl,bW h1 hm.1.size,bW h2 hm.1.size,h3,hm.below h4,h4⟩
theorem MW (g:Nat) (hb:b≤g) (hg:g<w.heap.size) (t:ByteArray) (c0:w.cell? ⟨g,0,none⟩=some (.string t)):
  Calls prog 36 #[.iface 108 (.pointer (some ⟨g,0,none⟩))] w (gM w {zr 2 0 with text:=t}):=by
 have hm:=U5;have a1:=asNumber;have a2:=qc;have HN:Hid (∀W,Below w.heap.size w W→Calls prog 62 #[.iface 108 (.pointer (some ⟨g,0,none⟩))] W (fI w W [])):=aa fun W hB=>dT (aY.text (b:=b) g hb hg t c0) hB
 go_enter func36,ntmps36;go_wp2_with fail;refine(U4 _ _).mono ?_;rintro e w2 ⟨rfl,rfl⟩;go_wp2_with fail;obtain⟨w1,ey⟩: ∃w1,w1=w.alloc (.cells zc 46):=⟨_,rfl⟩;have aU:Below w.heap.size w w1:=by rw[ey];exact(aS w.heap.size w).alloc (aP _) _
 have db:aH w1 w.heap.size 46 zc:=by rw[ey];exact aH.new _ _ _
 simp only[zc]at ey;rw[←ey];refine(HN.out _ aU).mono ?_;rintro e w2 ⟨s,rfl,hs,aM,_⟩;obtain⟨ao,c,rfl,_⟩:=hs;have bD:=aa (aU.trans (aM.mono aU.size));have jg:=aa (db.below aM db.lt);have d0:w2.cell? ⟨g,0,none⟩=some (.string t):=(bD.out.cell (p:=⟨g,0,none⟩) hg).trans c0;have xh:g<w2.heap.size:=gO hg bD.out.size;clear aU aM db ey c0;go_wp2_with (refine ay rfl 46 (.tmp 2) (.tmp 142) rfl w.heap.size _ rfl rfl (jg.out.alloc _) (by kernel_rfl) rfl rfl ?_);intro W' hz iu;go_wp2_with fail;exact cz (bf results36 rfl hz underlying46 (by kernel_rfl)) rfl (mg (jg.out.alloc _) iu (bD.out.alloc bD.out.size _) rfl rfl rfl rfl rfl)
theorem QT (h:j<xs.length):(List.replicate j M++xs.drop j).set j M=List.replicate (j+1) M++xs.drop (j+1):=by
 rw[Om _ _ (by simp)];rw[uh,EC,nV h,dG,List.replicate_succ',lj];rfl
theorem xT (h:w.ownsRow base e size v n xs):(v= .slice none 0 0∧n=0)∨ ∃g c,v= .slice (some ⟨g,0,none⟩) n c∧g<w.heap.size∧base≤g:=by
 rcases h.2 with⟨rfl,h'⟩|⟨g,cap,cur,rfl,hb,hg,_⟩
 ·exact .inl ⟨rfl,h'⟩
 ·exact .inr ⟨g,cap,rfl,(u7.1 hg).1,hb⟩
theorem U9 {m:Nat} (ho:w.ownsRow b 9 1 v n xs) (hx:xs.length=n) (hn:n≤1099511627776) (hm:m<1099511627776):
  Calls prog 39 #[v,.int .i64 (m:Int)] w fun e w'=>(∃r,e= .returned r)∧w'.ownsRow b 9 1 v n (List.replicate n (.string (iF m)))∧w.grownBy w' v.ownBlock:=by
 have HM:Hid (∀W,Calls prog 66 #[.int .i64 (m:Int)] W fun e w'=>e= .returned (.string (iF m))∧Below W.heap.size W w'):=aa fun W=>OZ m W hm
 have Z0: ∃ao c,v= .slice ao n c∧(0<n→ ∃g,ao=some ⟨g,0,none⟩):=by
  rcases xT ho with⟨rfl,rfl⟩|⟨g,c,rfl,_⟩
  ·exact⟨_,_,rfl,fun h=>absurd h (Nat.lt_irrefl _)⟩
  ·exact⟨_,_,rfl,fun _=>⟨g,rfl⟩⟩
 obtain⟨ao,c,rfl,hg⟩:=Z0;have HG:=aa hg;have HO:=aa ho;have HX:=aa hx;clear hg ho hx;go_enter func39,ntmps39;go_wp2_with fail;go_loopw [4] (fun t4 W=> ∃j:Nat,t4= .int .i64 (j:Int)∧Hid (j≤n)∧Hid (W.ownsRow b 9 1 (.slice ao n c) n (List.replicate j (.string (iF m))++xs.drop j))∧Hid (w.grownBy W (Value.slice ao n c).ownBlock)) (fun t4 _=>n-(intOf t4).toNat)
 case atStart=>exact⟨0,rfl,aa (aT _),by simpa using HO,aa ⟨rfl,rfl,rfl,aP _,fun _ _ _=>rfl⟩⟩
 case round=>
  obtain⟨j,rfl,hj,ho,hg⟩:=hrel;by_cases au:j<n
  ·have p1:((j:Int)<(n:Int))=True:=az (by omega);obtain⟨g,rfl⟩:=HG.out (by omega);have hxj:j<xs.length:=by rw[HX.out];exact au
   obtain⟨u0,hu0⟩: ∃u,(List.replicate j (Value.string (iF m))++xs.drop j)[j]? =some u:=⟨xs[j],by rw[A5 (by rw[uh];exact aP _),uh,EC,List.getElem?_drop,iv,lB hxj]⟩;have HE:=aa hu0;have sr:Hid (∀W1,W1.ownsRow b 9 1 (.slice (some ⟨g,0,none⟩) n c) n (List.replicate j (.string (iF m))++xs.drop j)→w.grownBy W1 (some g)→(W1.setCell ⟨g,j,none⟩ (.string (iF m))).ownsRow b 9 1 (.slice (some ⟨g,0,none⟩) n c) n (List.replicate (j+1) (.string (iF m))++xs.drop (j+1))∧w.grownBy (W1.setCell ⟨g,j,none⟩ (.string (iF m))) (some g)):=aa fun W1 h1 h2=>by
    obtain⟨h3,h4⟩:=h1.stored j (.string (iF m));rw[QT hxj]at h3;exact⟨h3,dh h2 h4⟩
   clear hxj hu0;go_wp2_with (go_at_call 66;(with_reducible refine(HM.out _).mono ?_);rintro e W1 ⟨rfl,aU⟩;have qB:Hid (W1.ownsRow b 9 1 (.slice (some ⟨g,0,none⟩) n c) n (List.replicate j (.string (iF m))++xs.drop j)):=aa (aD ho.out aU);have HG1:Hid (w.grownBy W1 (some g)):=aa (dh hg.out (eB aU _));have k1:=(qB.out.cellAt j (by omega)).trans HE.out;have f1:=qB.out.frozenAt j;clear aU);go_roundw
   case rel=>
    obtain⟨h3,h4⟩:=sr.out _ qB.out HG1.out;exact⟨j+1,by go_num,aa au,aa h3,aa h4⟩
   case measure=>simp[intOf];omega
  ·have p1:((j:Int)<(n:Int))=False:=bL (by omega);have hjn:j=n:=by have:=hj.out;omega
   subst hjn;go_wp2_with fail;go_end0;exact⟨⟨_,rfl⟩,by have:=ho.out;rw[s9 (by rw[HX.out];exact aP _),mu]at this;exact this,hg.out⟩
