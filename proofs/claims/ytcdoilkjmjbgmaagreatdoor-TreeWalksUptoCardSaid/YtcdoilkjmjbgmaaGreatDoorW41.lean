import Derived.Test.YtcdoilkjmjbgmaaGreatDoorW34
/- Part of the proof of YtcdoilkjmjbgmaaGreatDoorCardX: TrWu. -/
set_option maxRecDepth 100000
set_option maxHeartbeats 4000000
set_option linter.unusedVariables false
set_option linter.unusedSimpArgs false
namespace Go.Proofs.YtcdoilkjmjbgmaaGreatDoor
open Go.RowKit
open Go.Proofs.Tryz
theorem Ho (w:World) (r:PR) (am ao ai al:Option Addr) (nm cm no co ni ci nl cl:Nat) (h:bw 0 w r (.slice am nm cm) (.slice ao no co) (.slice ai ni ci) (.slice al nl cl)) (hl:iO r) (hk:de r.kind r.kids=true) (hu: ¬fZ r=zr r.kind 0):
  Calls prog 60 #[.agg #[.int .i64 r.kind,.int .i64 r.kids,.string r.op,.string r.text,.slice am nm cm,.string r.bQ,.string r.step,.string r.off,.string r.tim,.bool r.bool,.bool r.given,.bool r.on,.slice ao no co,.int .i64 r.card,.slice ai ni ci,.bool r.without,.slice al nl cl]] w (aC w false):=by
 obtain⟨A,hA⟩: ∃A,A=dN r (.slice am nm cm) (.slice ao no co) (.slice ai ni ci) (.slice al nl cl):=⟨_,rfl⟩;obtain⟨W1,lY⟩: ∃W1,W1=w.alloc (.cells A 46):=⟨_,rfl⟩;have s7:OB w A W1:=by rw[lY];exact Uj w A
 have lJ:Hid (OB w A W1.drew):=aa s7.drew;have HU:Hid (∀W,OB w A W→Calls prog 77 #[.agg #[.int .i64 r.kind,.int .i64 r.kids,.string r.op,.string r.text,.slice am nm cm,.string r.bQ,.string r.step,.string r.off,.string r.tim,.bool r.bool,.bool r.given,.bool r.on,.slice ao no co,.int .i64 r.card,.slice ai ni ci,.bool r.without,.slice al nl cl]] W (UnX w A r)):=aa fun W hs=>afT h hs
 have HA:=aa hA;have HH:=aa h;have c0:W1.drew.cell? ⟨w.heap.size,0,none⟩=some (.int .i64 r.kind):=(s7.2.cell 0).trans (by rw[hA];rfl);have c1:W1.drew.cell? ⟨w.heap.size,1,none⟩=some (.int .i64 r.kids):=(s7.2.cell 1).trans (by rw[hA];rfl);have c2:W1.drew.cell? ⟨w.heap.size,2,none⟩=some (.string r.op):=(s7.2.cell 2).trans (by rw[hA];rfl);have c3:W1.drew.cell? ⟨w.heap.size,3,none⟩=some (.string r.text):=(s7.2.cell 3).trans (by rw[hA];rfl);have c4:W1.drew.cell? ⟨w.heap.size,4,none⟩=some (.slice am nm cm):=(s7.2.cell 4).trans (by rw[hA];rfl);have c5:W1.drew.cell? ⟨w.heap.size,5,none⟩=some (.string r.bQ):=(s7.2.cell 5).trans (by rw[hA];rfl);have c6:W1.drew.cell? ⟨w.heap.size,6,none⟩=some (.string r.step):=(s7.2.cell 6).trans (by rw[hA];rfl);have c7:W1.drew.cell? ⟨w.heap.size,7,none⟩=some (.string r.off):=(s7.2.cell 7).trans (by rw[hA];rfl);have c8:W1.drew.cell? ⟨w.heap.size,8,none⟩=some (.string r.tim):=(s7.2.cell 8).trans (by rw[hA];rfl);have c9:W1.drew.cell? ⟨w.heap.size,9,none⟩=some (.bool r.bool):=(s7.2.cell 9).trans (by rw[hA];rfl);have WY:W1.drew.cell? ⟨w.heap.size,10,none⟩=some (.bool r.given):=(s7.2.cell 10).trans (by rw[hA];rfl);have WZ:W1.drew.cell? ⟨w.heap.size,11,none⟩=some (.bool r.on):=(s7.2.cell 11).trans (by rw[hA];rfl);have c12:W1.drew.cell? ⟨w.heap.size,12,none⟩=some (.slice ao no co):=(s7.2.cell 12).trans (by rw[hA];rfl);have S5:W1.drew.cell? ⟨w.heap.size,13,none⟩=some (.int .i64 r.card):=(s7.2.cell 13).trans (by rw[hA];rfl);have Li:W1.drew.cell? ⟨w.heap.size,14,none⟩=some (.slice ai ni ci):=(s7.2.cell 14).trans (by rw[hA];rfl);have S6:W1.drew.cell? ⟨w.heap.size,15,none⟩=some (.bool r.without):=(s7.2.cell 15).trans (by rw[hA];rfl);have Iq:W1.drew.cell? ⟨w.heap.size,16,none⟩=some (.slice al nl cl):=(s7.2.cell 16).trans (by rw[hA];rfl);rw[hA]at lY;simp only[dN]at lY;have FO:=aa lY;have HL:=aa hl.un;have HK:=aa hk;clear h hl s7 hA lY hk;go_enter func60,ntmps60;go_upto_region 1 with(fail)
 rw[←FO.out];go_region_with (first|(go_at_call 76;refine(qA _ _ _).mono ?_;rintro e w' ⟨rfl,rfl⟩;rw[HK.out])|(go_at_call 77;refine(HU.out _ lJ.out).mono ?_;rintro e WU ⟨um,uo,ui,ul,rfl,mj,hs⟩;have u0:WU.cell? ⟨w.heap.size,0,none⟩=some (.int .i64 r.kind):=(hs.2.cell 0).trans (by rw[HA.out];rfl);have HSU:=aa hs;have ζ:=aa mj;clear hs mj)|(go_at_call 47;refine(afU (k:=r.kind) ζ.out HL.out HSU.out).mono ?_;rintro e WS ⟨bs,rfl,hbs,hs⟩;have HSS:=aa hs;have HBS:=aa hbs;clear hs hbs))
 all_goals
  have hb:bs=false:=by
   cases bs with
   |false=>rfl
   |true=>exact absurd (HBS.out.1 rfl) hu
  subst hb;go_wp2_with fail;go_ret;exact⟨rfl,HSS.out.1⟩
