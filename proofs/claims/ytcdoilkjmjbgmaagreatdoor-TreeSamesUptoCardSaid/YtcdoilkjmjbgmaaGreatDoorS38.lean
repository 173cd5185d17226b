import Derived.Test.YtcdoilkjmjbgmaaGreatDoorS30
/- Part of the proof of YtcdoilkjmjbgmaaGreatDoorCardY: TrWu. -/
set_option maxRecDepth 100000
set_option maxHeartbeats 4000000
set_option linter.unusedVariables false
set_option linter.unusedSimpArgs false
namespace Go.Proofs.YtcdoilkjmjbgmaaGreatDoor
open Go.RowKit
open Go.Proofs.Tryz
theorem Hb (w:World) (r:PR) (am ao ai al:Option Addr) (nm cm no co ni ci nl cl:Nat) (h:bA 0 w r (.slice am nm cm) (.slice ao no co) (.slice ai ni ci) (.slice al nl cl)) (hl:gp r) (hk:du r.kind r.kids=true) (hu: ¬gd r=zr r.kind 0):
  Calls prog 60 #[.agg #[.int .i64 r.kind,.int .i64 r.kids,.string r.op,.string r.text,.slice am nm cm,.string r.bU,.string r.step,.string r.off,.string r.tim,.bool r.bool,.bool r.given,.bool r.on,.slice ao no co,.int .i64 r.card,.slice ai ni ci,.bool r.without,.slice al nl cl]] w (aF w false):=by
 obtain⟨A,hA⟩: ∃A,A=et r (.slice am nm cm) (.slice ao no co) (.slice ai ni ci) (.slice al nl cl):=⟨_,rfl⟩;obtain⟨W1,lX⟩: ∃W1,W1=w.alloc (.cells A 46):=⟨_,rfl⟩;have sT:OB w A W1:=by rw[lX];exact T3 w A
 have Aj:Hid (OB w A W1.drew):=ae sT.drew;have HU:Hid (∀W,OB w A W→Calls prog 77 #[.agg #[.int .i64 r.kind,.int .i64 r.kids,.string r.op,.string r.text,.slice am nm cm,.string r.bU,.string r.step,.string r.off,.string r.tim,.bool r.bool,.bool r.given,.bool r.on,.slice ao no co,.int .i64 r.card,.slice ai ni ci,.bool r.without,.slice al nl cl]] W (UnX w A r)):=ae fun W hs=>afc h hs
 have HA:=ae hA;have HH:=ae h;have c0:W1.drew.cell? ⟨w.heap.size,0,none⟩=some (.int .i64 r.kind):=(sT.2.cell 0).trans (by rw[hA];rfl);have c1:W1.drew.cell? ⟨w.heap.size,1,none⟩=some (.int .i64 r.kids):=(sT.2.cell 1).trans (by rw[hA];rfl);have c2:W1.drew.cell? ⟨w.heap.size,2,none⟩=some (.string r.op):=(sT.2.cell 2).trans (by rw[hA];rfl);have c3:W1.drew.cell? ⟨w.heap.size,3,none⟩=some (.string r.text):=(sT.2.cell 3).trans (by rw[hA];rfl);have c4:W1.drew.cell? ⟨w.heap.size,4,none⟩=some (.slice am nm cm):=(sT.2.cell 4).trans (by rw[hA];rfl);have c5:W1.drew.cell? ⟨w.heap.size,5,none⟩=some (.string r.bU):=(sT.2.cell 5).trans (by rw[hA];rfl);have c6:W1.drew.cell? ⟨w.heap.size,6,none⟩=some (.string r.step):=(sT.2.cell 6).trans (by rw[hA];rfl);have c7:W1.drew.cell? ⟨w.heap.size,7,none⟩=some (.string r.off):=(sT.2.cell 7).trans (by rw[hA];rfl);have c8:W1.drew.cell? ⟨w.heap.size,8,none⟩=some (.string r.tim):=(sT.2.cell 8).trans (by rw[hA];rfl);have c9:W1.drew.cell? ⟨w.heap.size,9,none⟩=some (.bool r.bool):=(sT.2.cell 9).trans (by rw[hA];rfl);have PC:W1.drew.cell? ⟨w.heap.size,10,none⟩=some (.bool r.given):=(sT.2.cell 10).trans (by rw[hA];rfl);have PD:W1.drew.cell? ⟨w.heap.size,11,none⟩=some (.bool r.on):=(sT.2.cell 11).trans (by rw[hA];rfl);have c12:W1.drew.cell? ⟨w.heap.size,12,none⟩=some (.slice ao no co):=(sT.2.cell 12).trans (by rw[hA];rfl);have PE:W1.drew.cell? ⟨w.heap.size,13,none⟩=some (.int .i64 r.card):=(sT.2.cell 13).trans (by rw[hA];rfl);have PF:W1.drew.cell? ⟨w.heap.size,14,none⟩=some (.slice ai ni ci):=(sT.2.cell 14).trans (by rw[hA];rfl);have NY:W1.drew.cell? ⟨w.heap.size,15,none⟩=some (.bool r.without):=(sT.2.cell 15).trans (by rw[hA];rfl);have NZ:W1.drew.cell? ⟨w.heap.size,16,none⟩=some (.slice al nl cl):=(sT.2.cell 16).trans (by rw[hA];rfl);rw[hA]at lX;simp only[et]at lX;have FH:=ae lX;have HL:=ae hl.un;have HK:=ae hk;clear h hl sT hA lX hk;go_enter func60,ntmps60;go_upto_region 1 with(fail)
 rw[←FH.out];go_region_with (first|(go_at_call 76;refine(pZ _ _ _).mono ?_;rintro e w' ⟨rfl,rfl⟩;rw[HK.out])|(go_at_call 77;refine(HU.out _ Aj.out).mono ?_;rintro e WU ⟨um,uo,ui,ul,rfl,lg,hs⟩;have u0:WU.cell? ⟨w.heap.size,0,none⟩=some (.int .i64 r.kind):=(hs.2.cell 0).trans (by rw[HA.out];rfl);have HSU:=ae hs;have ZT:=ae lg;clear hs lg)|(go_at_call 47;refine(afd (k:=r.kind) ZT.out HL.out HSU.out).mono ?_;rintro e WS ⟨bs,rfl,hbs,hs⟩;have HSS:=ae hs;have HBS:=ae hbs;clear hs hbs))
 all_goals
  have hb:bs=false:=by
   cases bs with
   |false=>rfl
   |true=>exact absurd (HBS.out.1 rfl) hu
  subst hb;go_wp2_with fail;go_ret;exact⟨rfl,HSS.out.1⟩
