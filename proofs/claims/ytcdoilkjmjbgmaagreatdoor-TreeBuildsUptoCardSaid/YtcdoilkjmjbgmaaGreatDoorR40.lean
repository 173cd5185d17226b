import Derived.Test.YtcdoilkjmjbgmaaGreatDoorR35
/- Part of the proof of YtcdoilkjmjbgmaaGreatDoorCardR: TrWu. -/
set_option maxRecDepth 100000
set_option maxHeartbeats 4000000
set_option linter.unusedVariables false
set_option linter.unusedSimpArgs false
namespace Go.Proofs.YtcdoilkjmjbgmaaGreatDoor
open Go.RowKit
open Tryz
theorem Hz (w:World) (r:PR) (am ao ai al:Option Addr) (nm cm no co ni ci nl cl:Nat) (h:bw 0 w r (.slice am nm cm) (.slice ao no co) (.slice ai ni ci) (.slice al nl cl)) (hl:gD r) (hk:du r.kind r.kids=true) (hu: ¬gz r=zr r.kind 0):
  Calls prog 60 #[.agg #[.int .i64 r.kind,.int .i64 r.kids,.string r.op,.string r.text,.slice am nm cm,.string r.bV,.string r.step,.string r.off,.string r.tim,.bool r.bool,.bool r.given,.bool r.on,.slice ao no co,.int .i64 r.card,.slice ai ni ci,.bool r.without,.slice al nl cl]] w (aG w false):=by
 obtain⟨A,hA⟩: ∃A,A=dS r (.slice am nm cm) (.slice ao no co) (.slice ai ni ci) (.slice al nl cl):=⟨_,rfl⟩;obtain⟨W1,mh⟩: ∃W1,W1=w.alloc (.cells A 46):=⟨_,rfl⟩;have tn:OB w A W1:=by rw[mh];exact Uc w A
 have lD:Hid (OB w A W1.drew):=aa tn.drew;have HU:Hid (∀W,OB w A W→Calls prog 77 #[.agg #[.int .i64 r.kind,.int .i64 r.kids,.string r.op,.string r.text,.slice am nm cm,.string r.bV,.string r.step,.string r.off,.string r.tim,.bool r.bool,.bool r.given,.bool r.on,.slice ao no co,.int .i64 r.card,.slice ai ni ci,.bool r.without,.slice al nl cl]] W (UnX w A r)):=aa fun W hs=>af3 h hs
 have HA:=aa hA;have HH:=aa h;have c0:W1.drew.cell? ⟨w.heap.size,0,none⟩=some (.int .i64 r.kind):=(tn.2.cell 0).trans (by rw[hA];rfl);have c1:W1.drew.cell? ⟨w.heap.size,1,none⟩=some (.int .i64 r.kids):=(tn.2.cell 1).trans (by rw[hA];rfl);have c2:W1.drew.cell? ⟨w.heap.size,2,none⟩=some (.string r.op):=(tn.2.cell 2).trans (by rw[hA];rfl);have c3:W1.drew.cell? ⟨w.heap.size,3,none⟩=some (.string r.text):=(tn.2.cell 3).trans (by rw[hA];rfl);have c4:W1.drew.cell? ⟨w.heap.size,4,none⟩=some (.slice am nm cm):=(tn.2.cell 4).trans (by rw[hA];rfl);have c5:W1.drew.cell? ⟨w.heap.size,5,none⟩=some (.string r.bV):=(tn.2.cell 5).trans (by rw[hA];rfl);have c6:W1.drew.cell? ⟨w.heap.size,6,none⟩=some (.string r.step):=(tn.2.cell 6).trans (by rw[hA];rfl);have c7:W1.drew.cell? ⟨w.heap.size,7,none⟩=some (.string r.off):=(tn.2.cell 7).trans (by rw[hA];rfl);have c8:W1.drew.cell? ⟨w.heap.size,8,none⟩=some (.string r.tim):=(tn.2.cell 8).trans (by rw[hA];rfl);have c9:W1.drew.cell? ⟨w.heap.size,9,none⟩=some (.bool r.bool):=(tn.2.cell 9).trans (by rw[hA];rfl);have P4:W1.drew.cell? ⟨w.heap.size,10,none⟩=some (.bool r.given):=(tn.2.cell 10).trans (by rw[hA];rfl);have P5:W1.drew.cell? ⟨w.heap.size,11,none⟩=some (.bool r.on):=(tn.2.cell 11).trans (by rw[hA];rfl);have c12:W1.drew.cell? ⟨w.heap.size,12,none⟩=some (.slice ao no co):=(tn.2.cell 12).trans (by rw[hA];rfl);have P6:W1.drew.cell? ⟨w.heap.size,13,none⟩=some (.int .i64 r.card):=(tn.2.cell 13).trans (by rw[hA];rfl);have P7:W1.drew.cell? ⟨w.heap.size,14,none⟩=some (.slice ai ni ci):=(tn.2.cell 14).trans (by rw[hA];rfl);have Ox:W1.drew.cell? ⟨w.heap.size,15,none⟩=some (.bool r.without):=(tn.2.cell 15).trans (by rw[hA];rfl);have Oy:W1.drew.cell? ⟨w.heap.size,16,none⟩=some (.slice al nl cl):=(tn.2.cell 16).trans (by rw[hA];rfl);rw[hA]at mh;simp only[dS]at mh;have FZ:=aa mh;have HL:=aa hl.un;have HK:=aa hk;clear h hl tn hA mh hk;go_enter func60,ntmps60;go_upto_region 1 with(fail)
 rw[←FZ.out];go_region_with (first|(go_at_call 76;refine(qq _ _ _).mono ?_;rintro e w' ⟨rfl,rfl⟩;rw[HK.out])|(go_at_call 77;refine(HU.out _ lD.out).mono ?_;rintro e WU ⟨um,uo,ui,ul,rfl,lr,hs⟩;have u0:WU.cell? ⟨w.heap.size,0,none⟩=some (.int .i64 r.kind):=(hs.2.cell 0).trans (by rw[HA.out];rfl);have HSU:=aa hs;have ZN:=aa lr;clear hs lr)|(go_at_call 47;refine(af4 (k:=r.kind) ZN.out HL.out HSU.out).mono ?_;rintro e WS ⟨bs,rfl,Ω,hs⟩;have HSS:=aa hs;have HBS:=aa Ω;clear hs Ω))
 all_goals
  have hb:bs=false:=by
   cases bs with
   |false=>rfl
   |true=>exact absurd (HBS.out.1 rfl) hu
  subst hb;go_wp2_with fail;go_ret;exact⟨rfl,HSS.out.1⟩
