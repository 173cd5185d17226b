import Derived.Test.YtpkeonafcldkhaaGreatDoorQ21
import Derived.Test.YtpkeonafcldkhaaGreatDoorQ40
/- Part of the proof of YtpkeonafcldkhaaGreatDoorCardS CardV: LawS. -/
set_option linter.unusedVariables false
set_option linter.unusedSimpArgs false
namespace Go.Proofs.YtpkeonafcldkhaaGreatDoor
open Go.RowKit
set_option maxRecDepth 100000 in
set_option maxHeartbeats 2000000 in
theorem law_LexScans {T : Nat → World → Prop} (hT : NumT (fun _ => True) T) (w : World) (vn : Value) (ss : List ByteArray) (hs : StrSl w vn ss) (hss : ∀ s ∈ ss, s.size ≤ 1048576) (hns : ss.length ≤ 1048576) (hTw : T w.heap.size w) :
  Calls Tryz.prog 3 #[vn] w fun e w' => e = .returned (.bool true) ∧ Below w.heap.size w w' := by
 obtain ⟨ao, c, rfl, hcell⟩ := hs
 have HC := Lib.hid hcell
 have HSS := Lib.hid hss
 have HT := Lib.hid hTw
 clear hcell hss hTw
 go_enter Tryz.func3, Tryz.ntmps3
 go_wp2_with fail
 refine (law_alive hT w HT.out).mono ?_
 rintro e w1 ⟨rfl, hb1⟩
 have HB1 := Lib.hid hb1
 clear hb1
 go_wp2_with fail
 go_loopw [3] (fun t3 wr => ∃ k : Nat, Hid (k ≤ ss.length) ∧ t3 = .int .i64 (k : Int) ∧ Hid (Below w.heap.size w wr)) (fun t3 _ => ss.length - (intOf t3).toNat)
 case atStart => exact ⟨0, Lib.hid (Nat.zero_le _), rfl, HB1⟩
 case round =>
  obtain ⟨k, hk, rfl, hB⟩ := hrel
  by_cases hi : k < ss.length
  ·have p1 : ((k : Int) < (ss.length : Int)) = True := by simp; omega
   obtain ⟨g, o, rfl, hg, hc⟩ := HC.out k hi
   have hm := HSS.out ss[k] (List.getElem_mem hi)
   obtain ⟨t, ht⟩ : ∃ t, t = ss[k] := ⟨_, rfl⟩
   rw [← ht] at hc hm
   have c1 : wr.cell? ⟨g, o + k, none⟩ = some (.string t) := (hB.out.cell (p := ⟨g, o + k, none⟩) hg).trans hc
   have HCC := Lib.hid hc
   have HT2 := Lib.hid (hT.mono (hT.keep HT.out hB.out) hB.out.size)
   have hm2 : t.size ≤ 281474976710 := by omega
   clear ht hc
   go_wp2_with fail
   refine (lex_Scan hT _ t hm2 (fun _ _ _ => trivial) HT2.out).mono ?_
   intro e w2 hp
   obtain ⟨bo, cb, rfl, hob, htb, hb2⟩ := hp.open
   have HB2 := Lib.hid (hB.out.trans (hb2.mono hB.out.size))
   have HTB := Lib.hid htb
   have c2 : w2.cell? ⟨g, o + k, none⟩ = some (.string t) := (HB2.out.cell (p := ⟨g, o + k, none⟩) hg).trans HCC.out
   clear c1 hob htb hb2 hp
   go_wp2_with fail
   refine (r11_Scan _ t hm2).mono ?_
   intro e w3 hp
   obtain ⟨co, cc, rfl, hoc, htc, hb3⟩ := hp.open
   have HB3 := Lib.hid (HB2.out.trans (hb3.mono HB2.out.size))
   have HTC := Lib.hid htc
   have HTB3 := Lib.hid (HTB.out.below hb3)
   clear c2 hoc htc hb3 hp HTB
   have hlen : (outToks (scanAll t.data.toList)).length ≤ 1099511627776 := by
    have h1 := (scanAll_len t.data.toList).1
    rw [len_data] at h1
    unfold outToks
    split
    ·omega
    ·simp
   have HSM : Hid (∀ d, Calls Tryz.prog 13 #[.slice bo (outToks (scanAll t.data.toList)).length cb, .slice co (outToks (scanAll t.data.toList)).length cc] (w3.drewN d) fun e w' => e = .returned (.bool true) ∧ ∃ d', w' = (w3.drewN d).drewN d') :=
    Lib.hid (fun d => law_same (w3.drewN d) bo co _ _ cb cc _ (HTB3.out.drewN d) (HTC.out.drewN d) hlen)
   clear hlen
   generalize (outToks (scanAll t.data.toList)).length = M at HSM ⊢
   generalize outAt (scanAll t.data.toList) = A
   generalize outErr (scanAll t.data.toList) = E
   have x1 : ((E : Int) != (E : Int)) = false := bne_self_eq_false _
   have x2 : ((A : Int) != (A : Int)) = false := bne_self_eq_false _
   go_wp2_with fail
   refine (HSM.out 0).mono ?_
   rintro e w4 ⟨rfl, d, rfl⟩
   have HB4 : Hid (Below w.heap.size w ((w3.drewN 0).drewN d)) := Lib.hid (Go.below_drewN (Go.below_drewN HB3.out 0) d)
   generalize (w3.drewN 0).drewN d = w4 at HB4 ⊢
   go_wp2_with fail
   exact ⟨⟨k + 1, Lib.hid hi, rfl, HB4⟩, rz_meas hi⟩
  ·have p1 : ((k : Int) < (ss.length : Int)) = False := by simp; omega
   go_wp2_with fail
   go_ret
   exact ⟨rfl, hB.out⟩
end Go.Proofs.YtpkeonafcldkhaaGreatDoor
