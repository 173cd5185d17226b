import Derived.Test.YtcdoilkjmjbgmaaGreatDoorS10
import Derived.Deep.RegionWith
import Derived.Test.YtcdoilkjmjbgmaaGreatDoorS08
import Derived.Outline
/- Part of the proof of YtcdoilkjmjbgmaaGreatDoorCardY: TrF TrG TrH TrHb. -/
set_option maxRecDepth 100000
set_option maxHeartbeats 4000000
set_option linter.unusedVariables false
set_option linter.unusedSimpArgs false
namespace Go.Proofs.YtcdoilkjmjbgmaaGreatDoor
open Go.RowKit
open Go.Proofs.Tryz
variable {u v v1 v2 o i m l:Value} {w w' W wO W':World} {b1 b2 s1 s2 n1 n2 b b' n n' z z' g base size no co gx:Nat} {e1 e2 e e' t:TypeId} {x1 x2 xs ys:List Value} {ss inc:List ByteArray} {cs ds:Array Value} {ms:List PM} {r:PR} {ao:Option Addr}
def py (b:Nat) (w:World) (v:Value) (ss:List ByteArray):Prop:=w.ownsRow b 9 1 v ss.length (ss.flatMap qE)
def xq (b:Nat) (w:World) (v:Value) (ms:List PM):Prop:=w.ownsRow b 65 3 v ms.length (ms.flatMap vh)
def gR (u v:Value):Prop:= ∀g,u.ownBlock=some g→v.ownBlock≠some g
theorem gR.symm (h:gR u v):gR v u:=fun g h1 h2=>h g h2 h1
theorem iU (h1:w.ownsRow b1 e1 s1 v1 n1 x1) (h2:w.ownsRow b2 e2 s2 v2 n2 x2) (bW:e1≠e2):v1.ownBlock=none∨v1.ownBlock≠v2.ownBlock:=by
 rcases h1.2 with⟨rfl,_⟩|⟨g1,ajR,ar4,rfl,_⟩
 ·exact .inl rfl
 ·rcases h2.2 with⟨rfl,_⟩|⟨g,cap,cur,rfl,_,hg,_⟩
  ·exact .inr (by simp[Value.ownBlock])
  ·exact .inr (cW h1 (g:=g) (t:=e2) (cs:=cur) hg bW)
theorem cQ (h:w.ownsRow b e z u n xs) (h':w'.ownsRow b' e' z' v n' ys) (hb:w.heap.size≤b'):gR u v:=fun g h1 h2=>by
 have h3:=(h.lt g h1).2;have h4:=(h'.lt g h2).1;omega
theorem py.aeR (h:py b w v ss) (hp:aM w g 44 cs) (a0 a1 a2 a3 a4:Value):
  py b (((((w.setCell ⟨g,0,none⟩ a0).setCell ⟨g,1,none⟩ a1).setCell ⟨g,2,none⟩ a2).setCell ⟨g,3,none⟩ a3).setCell ⟨g,4,none⟩ a4) v ss:=by
 have p1:=hp.dz 0 a0;have p2:=p1.dz 1 a1;have p3:=p2.dz 2 a2;have p4:=p3.dz 3 a3;exact aG (aG (aG (aG (aG h hp (by decide) a0) p1 (by decide) a1) p2 (by decide) a2) p3 (by decide) a3) p4 (by decide) a4
def xz (gi on:Bool) (o:Value) (card:Int) (i:Value):Value:=.agg #[.bool gi,.bool on,o,.int .i64 card,i]
def GP (w:World) (gi on:Bool) (card:Int) (ls inc:List ByteArray) (e:Ending) (w':World):Prop:=
 ∃o i,e= .returned (xz gi on o card i)∧py w.heap.size w' o ls∧py w.heap.size w' i inc∧gR o i∧Below w.heap.size w w'
def MI (w:World) (cs ds:Array Value) (W:World):Prop:=Below w.heap.size w W∧aM W w.heap.size 44 cs∧aM W (w.heap.size+1) 44 ds
theorem MI.below {w:World} {cs ds:Array Value} {W W':World} (h:MI w cs ds W) (hb:Below W.heap.size W W'):MI w cs ds W':=
 ⟨h.1.trans (hb.mono h.1.size),h.2.1.below hb h.2.1.lt,h.2.2.below hb h.2.2.lt⟩
theorem df (h:w.ownsRow base e size v n xs): ∃ao n' c',v= .slice ao n' c':=by
 rcases h.2 with⟨rfl,_⟩|⟨g,cap,cur,rfl,_⟩
 ·exact⟨_,_,_,rfl⟩
 ·exact⟨_,_,_,rfl⟩
def LY (w:World) (cs ds:Array Value) (W:World) (ss:List ByteArray) (e:Ending) (W':World):Prop:=
 ∃ao n c,e= .returned (.slice ao n c)∧py W.heap.size W' (.slice ao n c) ss∧MI w cs ds W'∧Below W.heap.size W W'∧w.heap.size+2≤W.heap.size
theorem Jr (h:cO b w v ss) (hn:ss.length≤1099511627776) (hm:MI w cs ds W):Calls prog 65 #[v] W (LY w cs ds W ss):=by
 refine(sH (h.below hm.1) hn).mono ?_;rintro e w' ⟨v',rfl,h1,h2⟩;obtain⟨ao,n,c,rfl⟩:=df h1;have aA:=hm.2.2.lt;exact⟨ao,n,c,rfl,h1,hm.below h2,h2,aA⟩
theorem tK {ls:List ByteArray} (gi on:Bool) (card:Int) (ho:cO b w o ls) (hi:cO b w i inc) (hn:ls.length≤1099511627776) (xd:inc.length≤1099511627776):
  Calls prog 64 #[.agg #[.bool gi,.bool on,o,.int .i64 card,i]] w (GP w gi on card ls inc):=by
 obtain⟨cs,bf⟩: ∃cs:Array Value,cs= #[.bool gi,.bool on,o,.int .i64 card,i]:=⟨_,rfl⟩;obtain⟨ds,hds⟩: ∃ds:Array Value,ds= #[.bool false,.bool false,.slice none 0 0,.int .i64 0,.slice none 0 0]:=⟨_,rfl⟩;have HCO:Hid (∀W,MI w cs ds W→Calls prog 65 #[o] W (LY w cs ds W ls)):=ae fun W hm=>Jr ho hn hm
 have HCI:Hid (∀W,MI w cs ds W→Calls prog 65 #[i] W (LY w cs ds W inc)):=ae fun W hm=>Jr hi xd hm
 have tW:MI w cs ds ((w.alloc (.cells cs 44)).alloc (.cells ds 44)):=
  ⟨((aU _ w).alloc (aS _) _).alloc (by simp) _,(aM.new w _ cs).alloc _,by have h:=aM.new (w.alloc (.cells cs 44)) 44 ds;simpa using h⟩
 obtain⟨w1,eC⟩: ∃w1,w1=(w.alloc (.cells cs 44)).alloc (.cells ds 44):=⟨_,rfl⟩;rw[←eC]at tW;rw[bf,hds]at eC;have HM1:=ae tW;have FH:=ae eC;have qg:=ae bf;have HDS:=ae hds;have k2:w1.cell? ⟨w.heap.size,2,none⟩=some o:=by rw[tW.2.1.cell,bf];rfl
 have k4:w1.cell? ⟨w.heap.size,4,none⟩=some i:=by rw[tW.2.1.cell,bf];rfl
 have m2:w1.drew.cell? ⟨w.heap.size,2,none⟩=some o:=k2;have m4:w1.drew.cell? ⟨w.heap.size,4,none⟩=some i:=k4;have mm:Hid (MI w cs ds w1.drew):=ae ⟨tW.1.drew,tW.2.1.drew,tW.2.2.drew⟩;clear ho hi tW eC bf hds;go_enter func64,ntmps64;go_wp2_with fail;rw[←FH.out];go_region_with (first|(go_at_call 65;(with_reducible refine(HCO.out _ (by first|exact Wx.out|exact mm.out)).mono ?_);rintro e wO ⟨ao,no,co,rfl,h1,hm,hb,hle⟩;have o2:wO.cell? ⟨w.heap.size,2,none⟩=some o:=(hm.2.1.cell _).trans (by rw[qg.out];rfl);have o4:wO.cell? ⟨w.heap.size,4,none⟩=some i:=(hm.2.1.cell _).trans (by rw[qg.out];rfl);have p2:=hm.2.1.frozen 2;have p4:=hm.2.1.frozen 4;have Xo:Hid (MI w cs ds wO):=ae hm;(try have HAP:=ae (cQ Wy.out h1 (aS _)).symm);have Wz:Hid (py w.heap.size wO (.slice ao no co) ls):=ae (cr h1 (by omega));(try have Wy:Hid (py w.heap.size wO (.slice ai ni ci) inc):=ae (bJ Wy.out hb));clear hm h1 hb hle)|(go_at_call 65;(with_reducible refine(HCI.out _ (by first|exact Xo.out|exact mm.out)).mono ?_);rintro e wI ⟨ai,ni,ci,rfl,h1,hm,hb,hle⟩;have i2:wI.cell? ⟨w.heap.size,2,none⟩=some o:=(hm.2.1.cell _).trans (by rw[qg.out];rfl);have i4:wI.cell? ⟨w.heap.size,4,none⟩=some i:=(hm.2.1.cell _).trans (by rw[qg.out];rfl);have r2:=hm.2.1.frozen 2;have r4:=hm.2.1.frozen 4;have Wx:Hid (MI w cs ds wI):=ae hm;(try have HAP:=ae (cQ Wz.out h1 (aS _)));have Wy:Hid (py w.heap.size wI (.slice ai ni ci) inc):=ae (cr h1 (by omega));(try have Wz:Hid (py w.heap.size wI (.slice ao no co) ls):=ae (bJ Wz.out hb));clear hm h1 hb hle))
 all_goals
  have hz:=(Wx.out.2.1.dz 2 (.slice ao no co)).dz 4 (.slice ai ni ci);rw[qg.out]at hz;have hr:=(Wx.out.2.2.Hf (p:=⟨w.heap.size,2,none⟩) (by simp) (.slice ao no co)).Hf (p:=⟨w.heap.size,4,none⟩) (by simp) (.slice ai ni ci);rw[HDS.out]at hr;have qy:=aG (aG (i:=2) Wz.out Wx.out.2.1 (by decide) (.slice ao no co)) (Wx.out.2.1.dz 2 (.slice ao no co)) (i:=4) (by decide) (.slice ai ni ci);have uP:=aG (aG (i:=2) Wy.out Wx.out.2.1 (by decide) (.slice ao no co)) (Wx.out.2.1.dz 2 (.slice ao no co)) (i:=4) (by decide) (.slice ai ni ci);have lj:=(Wx.out.1.setCell (p:=⟨w.heap.size,2,none⟩) (aS _) (.slice ao no co)).setCell (p:=⟨w.heap.size,4,none⟩) (aS _) (.slice ai ni ci);generalize (wI.setCell ⟨w.heap.size,2,none⟩ (.slice ao no co)).setCell ⟨w.heap.size,4,none⟩ (.slice ai ni ci)=w5 at hz hr qy uP lj ⊢
  have c0:w5.cell? ⟨w.heap.size,0,none⟩=some (.bool gi):=(hz.cell 0).trans rfl;have c1:w5.cell? ⟨w.heap.size,1,none⟩=some (.bool on):=(hz.cell 1).trans rfl;have c2:w5.cell? ⟨w.heap.size,2,none⟩=some (.slice ao no co):=(hz.cell 2).trans rfl;have c3:w5.cell? ⟨w.heap.size,3,none⟩=some (.int .i64 card):=(hz.cell 3).trans rfl;have c4:w5.cell? ⟨w.heap.size,4,none⟩=some (.slice ai ni ci):=(hz.cell 4).trans rfl;have e0:w5.cell? ⟨w.heap.size+1,0,none⟩=some (.bool false):=(hr.cell 0).trans rfl;have g0:=hr.frozen 0;have e1:w5.cell? ⟨w.heap.size+1,1,none⟩=some (.bool false):=(hr.cell 1).trans rfl;have g1:=hr.frozen 1;have e2:w5.cell? ⟨w.heap.size+1,2,none⟩=some (.slice none 0 0):=(hr.cell 2).trans rfl;have g2:=hr.frozen 2;have e3:w5.cell? ⟨w.heap.size+1,3,none⟩=some (.int .i64 0):=(hr.cell 3).trans rfl;have g3:=hr.frozen 3;have e4:w5.cell? ⟨w.heap.size+1,4,none⟩=some (.slice none 0 0):=(hr.cell 4).trans rfl;have g4:=hr.frozen 4;have t0:=hr.dz 0 (.bool gi);have t1:=t0.dz 1 (.bool on);have t2:=t1.dz 2 (.slice ao no co);have t3:=t2.dz 3 (.int .i64 card);have t4:=t3.dz 4 (.slice ai ni ci);have HT:=And.intro (ae (t0.cell 0)) (And.intro (ae (t1.cell 1)) (And.intro (ae (t2.cell 2)) (And.intro (ae (t3.cell 3)) (ae (t4.cell 4)))));have Dk:=ae HT;clear HT t0 t1 t2 t3 t4;have ZJ:=ae hr;have D6:=ae qy;have qx:=ae uP;have mW:=ae lj;clear hz hr qy uP lj k2 k4 m2 m4 o2 o4 i2 i4 p2 p4 r2 r4;go_wp2_with fail;obtain⟨s0,s1,s2,s3,s4⟩:=Dk.out;have s0:=s0.out;have s1:=s1.out;have s2:=s2.out;have s3:=s3.out;have s4:=s4.out;simp at s0 s1 s2 s3 s4;refine cB (v:=xz gi on (.slice ao no co) card (.slice ai ni ci)) (by simp[results,results64,go_sem,xz,s0,s1,s2,s3,s4]) rfl ⟨_,_,rfl,?_,?_,HAP.out,?_⟩
  ·exact py.aeR D6.out ZJ.out _ _ _ _ _
  ·exact py.aeR qx.out ZJ.out _ _ _ _ _
  ·exact((((mW.out.setCell (p:=⟨w.heap.size+1,0,none⟩) (by simp) _).setCell (p:=⟨w.heap.size+1,1,none⟩) (by simp) _).setCell (p:=⟨w.heap.size+1,2,none⟩) (by simp) _).setCell (p:=⟨w.heap.size+1,3,none⟩) (by simp) _).setCell (p:=⟨w.heap.size+1,4,none⟩) (by simp) _
def SI (w:World) (cs:Array Value) (W:World):Prop:=Below w.heap.size w W∧aM W w.heap.size 46 cs
theorem SI.below {w:World} {cs:Array Value} {W W':World} (h:SI w cs W) (hb:Below W.heap.size W W'):SI w cs W':=
 ⟨h.1.trans (hb.mono h.1.size),h.2.below hb h.2.lt⟩
def TV (w:World) (cs:Array Value) (W:World) (ms:List PM) (e:Ending) (W':World):Prop:=
 ∃ao n c,e= .returned (.slice ao n c)∧xq (w.heap.size+1) W' (.slice ao n c) ms∧SI w cs W'∧Below W.heap.size W W'
theorem YE (h:fV b w v ms) (hn:ms.length≤1099511627776) (hm:SI w cs W):Calls prog 63 #[v] W (TV w cs W ms):=by
 refine(EY (h.below hm.1) hn).mono ?_;rintro e w' ⟨v',rfl,h1,h2⟩;obtain⟨ao,n,c,rfl⟩:=df h1;have aA:=hm.2.lt;exact⟨ao,n,c,rfl,cr h1 (by omega),hm.below h2,h2⟩
def Aw (w:World) (r:PR) (e:Ending) (w':World):Prop:=
 ∃g,e= .returned (.pointer (some ⟨g,0,none⟩))∧ba w.heap.size w' (.iface 84 (.pointer (some ⟨g,0,none⟩))) {zr 3 0 with text:=r.text,ms:=r.ms,off:=r.off,tim:=r.tim} []∧Below w.heap.size w w'
def wi (w:World) (r:PR) (e:Ending) (w':World):Prop:=
 ∃g am nm cm,e= .returned (.pointer (some ⟨g,0,none⟩))∧w.heap.size≤g∧aM w' g 60 #[.string r.text,.slice am nm cm,.string r.off,.string r.tim]∧xq w.heap.size w' (.slice am nm cm) r.ms∧Below w.heap.size w w'
theorem wi.sel {e:Ending} (h:wi w r e w'):Aw w r e w':=by
 obtain⟨g,am,nm,cm,rfl,hg,hz,hm,hb⟩:=h;exact⟨g,rfl,.selector _ hg hz.lt r.text r.off r.tim _ r.ms (fV.jt hm) (hz.cell 0) (hz.cell 1) (hz.cell 2) (hz.cell 3),hb⟩
theorem UU (hs:SI w cs wO) (hm:xq (w.heap.size+1) wO (.slice ao no co) r.ms):
  wi w r (.returned (.pointer (some ⟨wO.heap.size,0,none⟩))) (wO.alloc (.cells #[.string r.text,.slice ao no co,.string r.off,.string r.tim] 60)):=by
 have hb:Below wO.heap.size wO (wO.alloc (.cells #[.string r.text,.slice ao no co,.string r.off,.string r.tim] 60)):=(aU _ _).alloc (aS _) _;exact⟨_,ao,no,co,rfl,hs.1.size,aM.new wO 60 #[.string r.text,.slice ao no co,.string r.off,.string r.tim],cr (bJ hm hb) (Nat.le_succ _),hs.1.trans (hb.mono hs.1.size)⟩
theorem CT (h:fV b w m r.ms) (hn:r.ms.length≤1099511627776):
  Calls prog 44 #[jM r m o i l] w (wi w r):=by
 obtain⟨cs,bf⟩: ∃cs:Array Value,cs=(nc r m o i l).toArray:=⟨_,rfl⟩;have Xp:Hid (∀W,SI w cs W→Calls prog 63 #[m] W (TV w cs W r.ms)):=ae fun W hm=>YE h hn hm
 have tW:SI w cs (w.alloc (.cells cs 46)):=⟨(aU _ w).alloc (aS _) _,aM.new w _ cs⟩;obtain⟨w1,eC⟩: ∃w1,w1=w.alloc (.cells cs 46):=⟨_,rfl⟩;rw[←eC]at tW;rw[bf]at eC;simp only[nc]at eC;have FH:=ae eC;have qg:=ae bf;have HM1:=ae tW;have hz:=tW.2;rw[bf]at hz;have k3:w1.drew.cell? ⟨w.heap.size,3,none⟩=some (.string r.text):=(hz.cell 3).trans rfl;have k4:w1.drew.cell? ⟨w.heap.size,4,none⟩=some m:=(hz.cell 4).trans rfl;have k7:w1.drew.cell? ⟨w.heap.size,7,none⟩=some (.string r.off):=(hz.cell 7).trans rfl;have k8:w1.drew.cell? ⟨w.heap.size,8,none⟩=some (.string r.tim):=(hz.cell 8).trans rfl;have mm:Hid (SI w cs w1.drew):=ae ⟨tW.1.drew,tW.2.drew⟩;clear h tW eC bf hz;simp only[jM];go_enter func44,ntmps44;go_wp2_with fail;rw[←FH.out];go_region_with (first|(go_at_call 63;(with_reducible refine(Xp.out _ mm.out).mono ?_);rintro e wO ⟨ao,no,co,rfl,h1,hm,hb⟩;have q3:wO.cell? ⟨w.heap.size,3,none⟩=some (.string r.text):=(hm.2.cell 3).trans (by rw[qg.out];rfl);have q7:wO.cell? ⟨w.heap.size,7,none⟩=some (.string r.off):=(hm.2.cell 7).trans (by rw[qg.out];rfl);have q8:wO.cell? ⟨w.heap.size,8,none⟩=some (.string r.tim):=(hm.2.cell 8).trans (by rw[qg.out];rfl);have Wy:=ae hm;have HMS:=ae h1;clear hm h1 hb))
 all_goals
  have hs:=Wy.out;have hm:=HMS.out;have HF:=ae (UU (r:=r) hs hm);clear hs hm;go_wp2_with fail;go_ret;exact HF.out
theorem tL (h:fV b w m r.ms) (hn:r.ms.length≤1099511627776):
  Calls prog 44 #[jM r m o i l] w (Aw w r):=(CT h hn).mono fun _ _ h=>h.sel
theorem MP (a:Addr) (w:World):Calls prog 270 #[.pointer (some a)] w fun e w'=>e= .returned (.int .i64 1)∧w=w':=by
 go_enter func270,ntmps270;go_wp2_with fail;go_ret;exact⟨rfl,rfl⟩
theorem MQ (a:Addr) (w:World):(method 512 105 (.pointer (some a)) "Kind").run prog w= .ok (270,.pointer (some a)) w:=by kernel_rfl
theorem UW (a:Addr) (w:World):Calls prog 271 #[.pointer (some a)] w fun e w'=>e= .returned (.int .i64 2)∧w=w':=by
 go_enter func271,ntmps271;go_wp2_with fail;go_ret;exact⟨rfl,rfl⟩
theorem UX (a:Addr) (w:World):(method 512 108 (.pointer (some a)) "Kind").run prog w= .ok (271,.pointer (some a)) w:=by kernel_rfl
theorem GQ (a:Addr) (w:World):Calls prog 268 #[.pointer (some a)] w fun e w'=>e= .returned (.int .i64 3)∧w=w':=by
 go_enter func268,ntmps268;go_wp2_with fail;go_ret;exact⟨rfl,rfl⟩
theorem GR (a:Addr) (w:World):(method 512 84 (.pointer (some a)) "Kind").run prog w= .ok (268,.pointer (some a)) w:=by kernel_rfl
theorem QG (a:Addr) (w:World):Calls prog 269 #[.pointer (some a)] w fun e w'=>e= .returned (.int .i64 4)∧w=w':=by
 go_enter func269,ntmps269;go_wp2_with fail;go_ret;exact⟨rfl,rfl⟩
theorem QH (a:Addr) (w:World):(method 512 98 (.pointer (some a)) "Kind").run prog w= .ok (269,.pointer (some a)) w:=by kernel_rfl
theorem GS (a:Addr) (w:World):Calls prog 272 #[.pointer (some a)] w fun e w'=>e= .returned (.int .i64 5)∧w=w':=by
 go_enter func272,ntmps272;go_wp2_with fail;go_ret;exact⟨rfl,rfl⟩
theorem GU (a:Addr) (w:World):(method 512 112 (.pointer (some a)) "Kind").run prog w= .ok (272,.pointer (some a)) w:=by kernel_rfl
theorem QI (a:Addr) (w:World):Calls prog 273 #[.pointer (some a)] w fun e w'=>e= .returned (.int .i64 6)∧w=w':=by
 go_enter func273,ntmps273;go_wp2_with fail;go_ret;exact⟨rfl,rfl⟩
theorem QJ (a:Addr) (w:World):(method 512 115 (.pointer (some a)) "Kind").run prog w= .ok (273,.pointer (some a)) w:=by kernel_rfl
theorem MR (a:Addr) (w:World):Calls prog 274 #[.pointer (some a)] w fun e w'=>e= .returned (.int .i64 7)∧w=w':=by
 go_enter func274,ntmps274;go_wp2_with fail;go_ret;exact⟨rfl,rfl⟩
theorem MS (a:Addr) (w:World):(method 512 118 (.pointer (some a)) "Kind").run prog w= .ok (274,.pointer (some a)) w:=by kernel_rfl
theorem UY (a:Addr) (w:World):Calls prog 275 #[.pointer (some a)] w fun e w'=>e= .returned (.int .i64 8)∧w=w':=by
 go_enter func275,ntmps275;go_wp2_with fail;go_ret;exact⟨rfl,rfl⟩
theorem UZ (a:Addr) (w:World):(method 512 122 (.pointer (some a)) "Kind").run prog w= .ok (275,.pointer (some a)) w:=by kernel_rfl
theorem tM (a:Addr) (w:World):Calls prog 276 #[.pointer (some a)] w fun e w'=>e= .returned (.int .i64 9)∧w=w':=by
 go_enter func276,ntmps276;go_wp2_with fail;go_ret;exact⟨rfl,rfl⟩
theorem tN (a:Addr) (w:World):(method 512 125 (.pointer (some a)) "Kind").run prog w= .ok (276,.pointer (some a)) w:=by kernel_rfl
def zc:Array Value:=#[.int .i64 0,.int .i64 0,.string ⟨#[]⟩,.string ⟨#[]⟩,.slice none 0 0,.string ⟨#[]⟩,.string ⟨#[]⟩,.string ⟨#[]⟩,.string ⟨#[]⟩,.bool false,.bool false,.bool false,.slice none 0 0,.int .i64 0,.slice none 0 0,.bool false,.slice none 0 0]
structure fc (b:Nat) (w:World) (r:PR) (vm vo vi vl:Value):Prop where
 m:xq b w vm r.ms
 o:py b w vo r.mls
 i:py b w vi r.inc
 l:py b w vl r.labels
 oi:gR vo vi
 ol:gR vo vl
 il:gR vi vl
theorem fc.ls (h:fc b w r m o i l):bA b w r m o i l:=⟨fV.jt h.m,cO.jt h.o,cO.jt h.i,cO.jt h.l⟩
theorem fc.below (h:fc b w r m o i l) (hb:Below w.heap.size w w'):fc b w' r m o i l:=
 ⟨bJ h.m hb,bJ h.o hb,bJ h.i hb,bJ h.l hb,h.oi,h.ol,h.il⟩
theorem fc.lo (h:fc b w r m o i l) (hb:b'≤b):fc b' w r m o i l:=
 ⟨cr h.m hb,cr h.o hb,cr h.i hb,cr h.l hb,h.oi,h.ol,h.il⟩
theorem fc.grow (h:fc b w r m o i l) (hg:w.grownBy w' (some g)) (hb:aM w g t cs) (h1:9≠t) (h2:65≠t):fc b w' r m o i l:=
 ⟨vT h.m hg hb h2,vT h.o hg hb h1,vT h.i hg hb h1,vT h.l hg hb h1,h.oi,h.ol,h.il⟩
theorem dv (v:Value):gR (.slice none 0 0) v:=fun g h=>by simp[Value.ownBlock]at h
theorem fO (b:Nat) (w:World):py b w (.slice none 0 0) []:=sZ _ _ _ _
theorem sI (b:Nat) (w:World):xq b w (.slice none 0 0) []:=sZ _ _ _ _
theorem J6 (b:Nat) (w:World) {r:PR} (h1:r.ms=[]) (h2:r.mls=[]) (h3:r.inc=[]) (h4:r.labels=[]):fc b w r (.slice none 0 0) (.slice none 0 0) (.slice none 0 0) (.slice none 0 0):=
 ⟨by rw[h1];exact sI _ _,by rw[h2];exact fO _ _,by rw[h3];exact fO _ _,by rw[h4];exact fO _ _,dv _,dv _,dv _⟩
def gJ (w:World) (r:PR) (e:Ending) (w':World):Prop:=
 ∃m o i l,e= .returned (jM r m o i l)∧fc w.heap.size w' r m o i l∧Below w.heap.size w w'
theorem rF (h:fc w.heap.size W r m o i l) (hz:aM W w.heap.size t cs) (hg:W.grownBy W' (some w.heap.size)) (hb:Below w.heap.size w W) (h1:9≠t) (h2:65≠t):
  gJ w r (.returned (.agg (et r m o i l))) W':=
 ⟨m,o,i,l,rfl,h.grow hg hz h1 h2,ef hb hg (jk hz.lt) (aS _)⟩
theorem mf (hz:aM W w.heap.size 46 cs) (hg:W.grownBy W' (some w.heap.size)) (hb:Below w.heap.size w W) (h1:r.ms=[]) (h2:r.mls=[]) (h3:r.inc=[]) (h4:r.labels=[]) {v:Value} (hv:v= .agg (et r (.slice none 0 0) (.slice none 0 0) (.slice none 0 0) (.slice none 0 0))):
  gJ w r (.returned v) W':=by
 subst hv;exact rF (J6 _ _ h1 h2 h3 h4) hz hg hb (by decide) (by decide)
theorem aL:(prog.info? 46).map (·.size)=some 17:=by kernel_rfl
def XI (w:World) (gx:Nat) (cs:Array Value) (W:World):Prop:=Below w.heap.size w W∧aM W w.heap.size 46 zc∧aM W gx 46 cs∧w.heap.size<gx
theorem XI.le (h:XI w gx cs W):w.heap.size≤gx:=jk h.2.2.2
theorem XI.ne (h:XI w gx cs W):w.heap.size≠gx:=Nat.ne_of_lt h.2.2.2
theorem XI.drew {w:World} {gx:Nat} {cs:Array Value} {W:World} (h:XI w gx cs W):XI w gx cs W.drew:=⟨h.1.drew,h.2.1.drew,h.2.2.1.drew,h.2.2.2⟩
theorem XI.below {w:World} {gx:Nat} {cs:Array Value} {W W':World} (h:XI w gx cs W) (hb:Below W.heap.size W W'):XI w gx cs W':=
 ⟨h.1.trans (hb.mono h.1.size),h.2.1.below hb h.2.1.lt,h.2.2.1.below hb h.2.2.1.lt,h.2.2.2⟩
theorem XI.cC (h:XI w gx cs W) (i:Nat) (a:Value):XI w gx (cs.setIfInBounds i a) (W.setCell ⟨gx,i,none⟩ a):=
 ⟨h.1.setCell (p:=⟨gx,i,none⟩) h.le a,h.2.1.Hf (p:=⟨gx,i,none⟩) h.ne a,h.2.2.1.dz i a,h.2.2.2⟩
theorem XI.own (h:XI w gx cs W) {b:Nat} {e:TypeId} {z n:Nat} {v:Value} {xs:List Value} (ho:W.ownsRow b e z v n xs) (bW:e≠46) (i:Nat) (a:Value):(W.setCell ⟨gx,i,none⟩ a).ownsRow b e z v n xs:=
 aG ho h.2.2.1 bW a
def OO (w:World) (gx:Nat) (cs:Array Value) (W:World) (ms:List PM) (e:Ending) (W':World):Prop:=
 ∃ao n c,e= .returned (.slice ao n c)∧xq w.heap.size W' (.slice ao n c) ms∧XI w gx cs W'∧Below W.heap.size W W'
theorem U0 (h:fV b w v ms) (hn:ms.length≤1099511627776) (hm:XI w gx cs W):Calls prog 63 #[v] W (OO w gx cs W ms):=by
 refine(EY (h.below hm.1) hn).mono ?_;rintro e w' ⟨v',rfl,h1,h2⟩;obtain⟨ao,n,c,rfl⟩:=df h1;exact⟨ao,n,c,rfl,cr h1 hm.1.size,hm.below h2,h2⟩
def Gm (w:World) (gx:Nat) (cs:Array Value) (W:World) (ss:List ByteArray) (e:Ending) (W':World):Prop:=
 ∃ao n c,e= .returned (.slice ao n c)∧py w.heap.size W' (.slice ao n c) ss∧XI w gx cs W'∧Below W.heap.size W W'
theorem Js (h:cO b w v ss) (hn:ss.length≤1099511627776) (hm:XI w gx cs W):Calls prog 65 #[v] W (Gm w gx cs W ss):=by
 refine(sH (h.below hm.1) hn).mono ?_;rintro e w' ⟨v',rfl,h1,h2⟩;obtain⟨ao,n,c,rfl⟩:=df h1;exact⟨ao,n,c,rfl,cr h1 hm.1.size,hm.below h2,h2⟩
def OP (w:World) (gx:Nat) (cs:Array Value) (W:World) (gi on:Bool) (card:Int) (ls inc:List ByteArray) (e:Ending) (W':World):Prop:=
 ∃ao no co ai ni ci,e= .returned (xz gi on (.slice ao no co) card (.slice ai ni ci))∧py w.heap.size W' (.slice ao no co) ls∧py w.heap.size W' (.slice ai ni ci) inc∧gR (.slice ao no co) (.slice ai ni ci)∧XI w gx cs W'∧Below W.heap.size W W'
theorem MT {ls:List ByteArray} (gi on:Bool) (card:Int) (ho:cO b w o ls) (hi:cO b w i inc) (hn:ls.length≤1099511627776) (xd:inc.length≤1099511627776) (hm:XI w gx cs W):
  Calls prog 64 #[.agg #[.bool gi,.bool on,o,.int .i64 card,i]] W (OP w gx cs W gi on card ls inc):=by
 refine(tK gi on card (ho.below hm.1) (hi.below hm.1) hn xd).mono ?_;rintro e w' ⟨o',i',rfl,h1,h2,h3,h4⟩;obtain⟨ao,no,co,rfl⟩:=df h1;obtain⟨ai,ni,ci,rfl⟩:=df h2;exact⟨ao,no,co,ai,ni,ci,rfl,cr h1 hm.1.size,cr h2 hm.1.size,h3,hm.below h4,h4⟩
theorem MU (g:Nat) (hb:b≤g) (hg:g<w.heap.size) (t:ByteArray) (c0:w.cell? ⟨g,0,none⟩=some (.string t)):
  Calls prog 36 #[.iface 108 (.pointer (some ⟨g,0,none⟩))] w (gJ w {zr 2 0 with text:=t}):=by
 have hm:=UX;have a1:=asNumber;have a2:=pF;have HN:Hid (∀W,Below w.heap.size w W→Calls prog 62 #[.iface 108 (.pointer (some ⟨g,0,none⟩))] W (fK w W [])):=ae fun W hB=>dR (ba.text (b:=b) g hb hg t c0) hB
 go_enter func36,ntmps36;go_wp2_with fail;refine(UW _ _).mono ?_;rintro e w2 ⟨rfl,rfl⟩;go_wp2_with fail;obtain⟨w1,eC⟩: ∃w1,w1=w.alloc (.cells zc 46):=⟨_,rfl⟩;have aY:Below w.heap.size w w1:=by rw[eC];exact(aU w.heap.size w).alloc (aS _) _
 have de:aM w1 w.heap.size 46 zc:=by rw[eC];exact aM.new _ _ _
 simp only[zc]at eC;rw[←eC];refine(HN.out _ aY).mono ?_;rintro e w2 ⟨s,rfl,hs,aQ,_⟩;obtain⟨ao,c,rfl,_⟩:=hs;have bF:=ae (aY.trans (aQ.mono aY.size));have iE:=ae (de.below aQ de.lt);have d0:w2.cell? ⟨g,0,none⟩=some (.string t):=(bF.out.cell (p:=⟨g,0,none⟩) hg).trans c0;have zF:g<w2.heap.size:=iv hg bF.out.size;clear aY aQ de eC c0;go_wp2_with (refine ax rfl 46 (.tmp 2) (.tmp 142) rfl w.heap.size _ rfl rfl (iE.out.alloc _) (by kernel_rfl) rfl rfl ?_);intro W' hz jm;go_wp2_with fail;exact cB (bh results36 rfl hz underlying46 (by kernel_rfl)) rfl (mf (iE.out.alloc _) jm (bF.out.alloc bF.out.size _) rfl rfl rfl rfl rfl)
