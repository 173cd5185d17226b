import Derived.Test.YtibcjfjacielbaaGreatDoorP31
import Derived.Lib.DecodeN
import Derived.Lib.Strings
import Derived.Deep.QuietTactic
import Derived.BigQuiet
import Derived.Deep.RegionHeld3
import Derived.StillTailTactics
import Derived.Deep.RegionWith
/- Part of the proof of YtibcjfjacielbaaGreatDoorCardP: TrF. -/
set_option maxRecDepth 100000
set_option maxHeartbeats 4000000
set_option linter.unusedVariables false
set_option linter.unusedSimpArgs false
namespace Go.Proofs.YtibcjfjacielbaaGreatDoor
open Go.RowKit
def StrO (b:Nat) (w:World) (v:Value) (ss:List ByteArray):Prop:=w.ownsRow b 9 1 v ss.length (ss.flatMap strC)
def MatO (b:Nat) (w:World) (v:Value) (ms:List PM):Prop:=w.ownsRow b 38 3 v ms.length (ms.flatMap matC)
def Apart (u v:Value):Prop:= ∀g,u.ownBlock=some g→v.ownBlock≠some g
theorem Apart.symm {u v:Value} (h:Apart u v):Apart v u:=fun g h1 h2=>h g h2 h1
theorem own_own_ne {w:World} {b1 b2 s1 s2 n1 n2:Nat} {e1 e2:TypeId} {v1 v2:Value} {x1 x2:List Value} (h1:w.ownsRow b1 e1 s1 v1 n1 x1) (h2:w.ownsRow b2 e2 s2 v2 n2 x2) (hne:e1≠e2):v1.ownBlock=none∨v1.ownBlock≠v2.ownBlock:=by
 rcases h1.2 with⟨rfl,_⟩|⟨g1,cap1,cur1,rfl,_⟩
 ·exact .inl rfl
 ·rcases h2.2 with⟨rfl,_⟩|⟨g,cap,cur,rfl,_,hg,_⟩
  ·exact .inr (by simp[Value.ownBlock])
  ·exact .inr (own_blk_ne h1 (g:=g) (t:=e2) (cs:=cur) hg hne)
theorem apart_of {w w':World} {b b' n n':Nat} {e e':TypeId} {z z':Nat} {u v:Value} {xs ys:List Value} (h:w.ownsRow b e z u n xs) (h':w'.ownsRow b' e' z' v n' ys) (hb:w.heap.size≤b'):Apart u v:=fun g h1 h2=>by
 have h3:=(h.lt g h1).2;have h4:=(h'.lt g h2).1;omega
theorem StrO.set5 {b:Nat} {w:World} {v:Value} {ss:List ByteArray} {g:Nat} {cs:Array Value} (h:StrO b w v ss) (hp:Blk w g 56 cs) (a0 a1 a2 a3 a4:Value):
  StrO b (((((w.setCell ⟨g,0,none⟩ a0).setCell ⟨g,1,none⟩ a1).setCell ⟨g,2,none⟩ a2).setCell ⟨g,3,none⟩ a3).setCell ⟨g,4,none⟩ a4) v ss:=by
 have p1:=hp.set_ 0 a0;have p2:=p1.set_ 1 a1;have p3:=p2.set_ 2 a2;have p4:=p3.set_ 3 a3;exact own_setBlk (own_setBlk (own_setBlk (own_setBlk (own_setBlk h hp (by decide) a0) p1 (by decide) a1) p2 (by decide) a2) p3 (by decide) a3) p4 (by decide) a4
def matchV (gi on:Bool) (o:Value) (card:Int) (i:Value):Value:=.agg #[.bool gi,.bool on,o,.int .i64 card,i]
def MatchingPost (w:World) (gi on:Bool) (card:Int) (ls inc:List ByteArray) (e:Ending) (w':World):Prop:=
 ∃o i,e= .returned (matchV gi on o card i)∧StrO w.heap.size w' o ls∧StrO w.heap.size w' i inc∧Apart o i∧Below w.heap.size w w'
def MI (w:World) (cs ds:Array Value) (W:World):Prop:=Below w.heap.size w W∧Blk W w.heap.size 56 cs∧Blk W (w.heap.size+1) 56 ds
theorem MI.below {w:World} {cs ds:Array Value} {W W':World} (h:MI w cs ds W) (hb:Below W.heap.size W W'):MI w cs ds W':=
 ⟨h.1.trans (hb.mono h.1.size),h.2.1.below hb h.2.1.lt,h.2.2.below hb h.2.2.lt⟩
theorem own_sl {w:World} {base:Nat} {e:TypeId} {size n:Nat} {v:Value} {xs:List Value} (h:w.ownsRow base e size v n xs): ∃ao n' c',v= .slice ao n' c':=by
 rcases h.2 with⟨rfl,_⟩|⟨g,cap,cur,rfl,_⟩
 ·exact⟨_,_,_,rfl⟩
 ·exact⟨_,_,_,rfl⟩
def CloneP (w:World) (cs ds:Array Value) (W:World) (ss:List ByteArray) (e:Ending) (W':World):Prop:=
 ∃ao n c,e= .returned (.slice ao n c)∧StrO W.heap.size W' (.slice ao n c) ss∧MI w cs ds W'∧Below W.heap.size W W'∧w.heap.size+2≤W.heap.size
theorem clone_in {b:Nat} {w W:World} {cs ds:Array Value} {v:Value} {ss:List ByteArray} (h:StrS b w v ss) (hn:ss.length≤1099511627776) (hm:MI w cs ds W):Calls Tryz.prog 106 #[v] W (CloneP w cs ds W ss):=by
 refine(clone_str (h.below hm.1) hn).mono ?_;rintro e w' ⟨v',rfl,h1,h2⟩;obtain⟨ao,n,c,rfl⟩:=own_sl h1;have hlt:=hm.2.2.lt;exact⟨ao,n,c,rfl,h1,hm.below h2,h2,hlt⟩
theorem tree_matching {b:Nat} {w:World} {o i:Value} {ls inc:List ByteArray} (gi on:Bool) (card:Int) (ho:StrS b w o ls) (hi:StrS b w i inc) (hn:ls.length≤1099511627776) (hn2:inc.length≤1099511627776):
  Calls Tryz.prog 105 #[.agg #[.bool gi,.bool on,o,.int .i64 card,i]] w (MatchingPost w gi on card ls inc):=by
 obtain⟨cs,hcs⟩: ∃cs:Array Value,cs= #[.bool gi,.bool on,o,.int .i64 card,i]:=⟨_,rfl⟩;obtain⟨ds,hds⟩: ∃ds:Array Value,ds= #[.bool false,.bool false,.slice none 0 0,.int .i64 0,.slice none 0 0]:=⟨_,rfl⟩;have HCO:Hid (∀W,MI w cs ds W→Calls Tryz.prog 106 #[o] W (CloneP w cs ds W ls)):=Lib.hid fun W hm=>clone_in ho hn hm
 have HCI:Hid (∀W,MI w cs ds W→Calls Tryz.prog 106 #[i] W (CloneP w cs ds W inc)):=Lib.hid fun W hm=>clone_in hi hn2 hm
 have hm1:MI w cs ds ((w.alloc (.cells cs 56)).alloc (.cells ds 56)):=
  ⟨((Below.refl _ w).alloc (Nat.le_refl _) _).alloc (by simp) _,(Blk.new w _ cs).alloc _,by have h:=Blk.new (w.alloc (.cells cs 56)) 56 ds;simpa using h⟩
 obtain⟨w1,hw1⟩: ∃w1,w1=(w.alloc (.cells cs 56)).alloc (.cells ds 56):=⟨_,rfl⟩;rw[←hw1]at hm1;rw[hcs,hds]at hw1;have HM1:=Lib.hid hm1;have HW1:=Lib.hid hw1;have HCS:=Lib.hid hcs;have HDS:=Lib.hid hds;have k2:w1.cell? ⟨w.heap.size,2,none⟩=some o:=by rw[hm1.2.1.cell,hcs];rfl
 have k4:w1.cell? ⟨w.heap.size,4,none⟩=some i:=by rw[hm1.2.1.cell,hcs];rfl
 have m2:w1.drew.cell? ⟨w.heap.size,2,none⟩=some o:=k2;have m4:w1.drew.cell? ⟨w.heap.size,4,none⟩=some i:=k4;have mm:Hid (MI w cs ds w1.drew):=Lib.hid ⟨hm1.1.drew,hm1.2.1.drew,hm1.2.2.drew⟩;clear ho hi hm1 hw1 hcs hds;go_enter Tryz.func105,Tryz.ntmps105;go_wp2_with fail;rw[←HW1.out];go_region_with (first|(go_at_call 106;(with_reducible refine(HCO.out _ (by first|exact HMI.out|exact mm.out)).mono ?_);rintro e wO ⟨ao,no,co,rfl,h1,hm,hb,hle⟩;have o2:wO.cell? ⟨w.heap.size,2,none⟩=some o:=(hm.2.1.cell _).trans (by rw[HCS.out];rfl);have o4:wO.cell? ⟨w.heap.size,4,none⟩=some i:=(hm.2.1.cell _).trans (by rw[HCS.out];rfl);have p2:=hm.2.1.frozen 2;have p4:=hm.2.1.frozen 4;have HMO:Hid (MI w cs ds wO):=Lib.hid hm;(try have HAP:=Lib.hid (apart_of HSI.out h1 (Nat.le_refl _)).symm);have HSO:Hid (StrO w.heap.size wO (.slice ao no co) ls):=Lib.hid (own_mono h1 (by omega));(try have HSI:Hid (StrO w.heap.size wO (.slice ai ni ci) inc):=Lib.hid (own_belowE HSI.out hb));clear hm h1 hb hle)|(go_at_call 106;(with_reducible refine(HCI.out _ (by first|exact HMO.out|exact mm.out)).mono ?_);rintro e wI ⟨ai,ni,ci,rfl,h1,hm,hb,hle⟩;have i2:wI.cell? ⟨w.heap.size,2,none⟩=some o:=(hm.2.1.cell _).trans (by rw[HCS.out];rfl);have i4:wI.cell? ⟨w.heap.size,4,none⟩=some i:=(hm.2.1.cell _).trans (by rw[HCS.out];rfl);have r2:=hm.2.1.frozen 2;have r4:=hm.2.1.frozen 4;have HMI:Hid (MI w cs ds wI):=Lib.hid hm;(try have HAP:=Lib.hid (apart_of HSO.out h1 (Nat.le_refl _)));have HSI:Hid (StrO w.heap.size wI (.slice ai ni ci) inc):=Lib.hid (own_mono h1 (by omega));(try have HSO:Hid (StrO w.heap.size wI (.slice ao no co) ls):=Lib.hid (own_belowE HSO.out hb));clear hm h1 hb hle))
 all_goals
  have hz:=(HMI.out.2.1.set_ 2 (.slice ao no co)).set_ 4 (.slice ai ni ci);rw[HCS.out]at hz;have hr:=(HMI.out.2.2.far (p:=⟨w.heap.size,2,none⟩) (by simp) (.slice ao no co)).far (p:=⟨w.heap.size,4,none⟩) (by simp) (.slice ai ni ci);rw[HDS.out]at hr;have hs1:=own_setBlk (own_setBlk (i:=2) HSO.out HMI.out.2.1 (by decide) (.slice ao no co)) (HMI.out.2.1.set_ 2 (.slice ao no co)) (i:=4) (by decide) (.slice ai ni ci);have hs2:=own_setBlk (own_setBlk (i:=2) HSI.out HMI.out.2.1 (by decide) (.slice ao no co)) (HMI.out.2.1.set_ 2 (.slice ao no co)) (i:=4) (by decide) (.slice ai ni ci);have hb5:=(HMI.out.1.setCell (p:=⟨w.heap.size,2,none⟩) (Nat.le_refl _) (.slice ao no co)).setCell (p:=⟨w.heap.size,4,none⟩) (Nat.le_refl _) (.slice ai ni ci);generalize (wI.setCell ⟨w.heap.size,2,none⟩ (.slice ao no co)).setCell ⟨w.heap.size,4,none⟩ (.slice ai ni ci)=w5 at hz hr hs1 hs2 hb5 ⊢
  have c0:w5.cell? ⟨w.heap.size,0,none⟩=some (.bool gi):=(hz.cell 0).trans rfl;have c1:w5.cell? ⟨w.heap.size,1,none⟩=some (.bool on):=(hz.cell 1).trans rfl;have c2:w5.cell? ⟨w.heap.size,2,none⟩=some (.slice ao no co):=(hz.cell 2).trans rfl;have c3:w5.cell? ⟨w.heap.size,3,none⟩=some (.int .i64 card):=(hz.cell 3).trans rfl;have c4:w5.cell? ⟨w.heap.size,4,none⟩=some (.slice ai ni ci):=(hz.cell 4).trans rfl;have e0:w5.cell? ⟨w.heap.size+1,0,none⟩=some (.bool false):=(hr.cell 0).trans rfl;have g0:=hr.frozen 0;have e1:w5.cell? ⟨w.heap.size+1,1,none⟩=some (.bool false):=(hr.cell 1).trans rfl;have g1:=hr.frozen 1;have e2:w5.cell? ⟨w.heap.size+1,2,none⟩=some (.slice none 0 0):=(hr.cell 2).trans rfl;have g2:=hr.frozen 2;have e3:w5.cell? ⟨w.heap.size+1,3,none⟩=some (.int .i64 0):=(hr.cell 3).trans rfl;have g3:=hr.frozen 3;have e4:w5.cell? ⟨w.heap.size+1,4,none⟩=some (.slice none 0 0):=(hr.cell 4).trans rfl;have g4:=hr.frozen 4;have t0:=hr.set_ 0 (.bool gi);have t1:=t0.set_ 1 (.bool on);have t2:=t1.set_ 2 (.slice ao no co);have t3:=t2.set_ 3 (.int .i64 card);have t4:=t3.set_ 4 (.slice ai ni ci);have HT:=And.intro (Lib.hid (t0.cell 0)) (And.intro (Lib.hid (t1.cell 1)) (And.intro (Lib.hid (t2.cell 2)) (And.intro (Lib.hid (t3.cell 3)) (Lib.hid (t4.cell 4)))));have HT2:=Lib.hid HT;clear HT t0 t1 t2 t3 t4;have HR0:=Lib.hid hr;have HS1:=Lib.hid hs1;have HS2:=Lib.hid hs2;have HB5:=Lib.hid hb5;clear hz hr hs1 hs2 hb5 k2 k4 m2 m4 o2 o4 i2 i4 p2 p4 r2 r4;go_wp2_with fail;obtain⟨s0,s1,s2,s3,s4⟩:=HT2.out;have s0:=s0.out;have s1:=s1.out;have s2:=s2.out;have s3:=s3.out;have s4:=s4.out;simp at s0 s1 s2 s3 s4;refine bodyPost_ret (v:=matchV gi on (.slice ao no co) card (.slice ai ni ci)) (by simp[results,Tryz.results105,go_sem,matchV,s0,s1,s2,s3,s4]) rfl ⟨_,_,rfl,?_,?_,HAP.out,?_⟩
  ·exact StrO.set5 HS1.out HR0.out _ _ _ _ _
  ·exact StrO.set5 HS2.out HR0.out _ _ _ _ _
  ·exact((((HB5.out.setCell (p:=⟨w.heap.size+1,0,none⟩) (by simp) _).setCell (p:=⟨w.heap.size+1,1,none⟩) (by simp) _).setCell (p:=⟨w.heap.size+1,2,none⟩) (by simp) _).setCell (p:=⟨w.heap.size+1,3,none⟩) (by simp) _).setCell (p:=⟨w.heap.size+1,4,none⟩) (by simp) _
end Go.Proofs.YtibcjfjacielbaaGreatDoor
