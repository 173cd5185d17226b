import Derived.Test.YtpkeonafcldkhaaGreatDoorM18
import Derived.Deep.QuietTactic
import Derived.BigQuiet
import Derived.StillTailTactics
import Derived.Test.YtpkeonafcldkhaaGreatDoorRows
import Derived.SliceStrings
import Derived.Deep.Slices
import Derived.OpenShut
import Derived.Carry
/- weirlaw11: gap. -/
set_option linter.unusedVariables false
set_option linter.unusedSimpArgs false
namespace Go.Proofs.YtpkeonafcldkhaaGreatDoor
open Go.RowKit

/-- A slice of bytes that can be read, place by place. -/
def ByteAt (w : World) (v : Value) (l : List UInt8) : Prop :=
  ∃ ao c, v = .slice ao l.length c ∧ ∀ j (h : j < l.length), ∃ g o, ao = some ⟨g, o, none⟩ ∧ g < w.heap.size ∧ w.cell? ⟨g, o + j, none⟩ = some (.int .u8 (l[j].toNat : Int))
def GapAt (w : World) (v : Value) (gs : List (List UInt8)) : Prop :=
  ∃ ao c, v = .slice ao gs.length c ∧ ∀ j (h : j < gs.length), ∃ g o u, ao = some ⟨g, o, none⟩ ∧ g < w.heap.size ∧ w.cell? ⟨g, o + j, none⟩ = some u ∧ ByteAt w u gs[j]
theorem ByteAt.below {w w' : World} {v : Value} {l : List UInt8} (h : ByteAt w v l) (hb : Below w.heap.size w w') : ByteAt w' v l := by
  obtain ⟨ao, c, rfl, hc⟩ := h
  refine ⟨ao, c, rfl, fun j hj => ?_⟩
  obtain ⟨g, o, rfl, hg, h1⟩ := hc j hj
  exact ⟨g, o, rfl, Nat.lt_of_lt_of_le hg hb.size, (hb.cell (p := ⟨g, _, none⟩) hg).trans h1⟩
theorem GapAt.below {w w' : World} {v : Value} {gs : List (List UInt8)} (h : GapAt w v gs) (hb : Below w.heap.size w w') : GapAt w' v gs := by
  obtain ⟨ao, c, rfl, hc⟩ := h
  refine ⟨ao, c, rfl, fun j hj => ?_⟩
  obtain ⟨g, o, u, rfl, hg, h1, h2⟩ := hc j hj
  exact ⟨g, o, u, rfl, Nat.lt_of_lt_of_le hg hb.size, (hb.cell (p := ⟨g, _, none⟩) hg).trans h1, h2.below hb⟩
def gapPiece (rem : Bool) (c : UInt8) : List UInt8 := if rem && c != 10 then [c] else if rem then [] else [32, 9, 13, 10]
def gapHead (rem : Bool) : List UInt8 := if rem then [32, 35] else [32]
def gapText (rem : Bool) (g : List UInt8) : List UInt8 := gapHead rem ++ g.flatMap (gapPiece rem) ++ [10]
def gapRem (g : List UInt8) : Bool := decide (0 < g.length) && (bits BinOp.and IntKind.u8 ((atB g 0).toNat : Int) 1 == 1)
def gapOf (gs : List (List UInt8)) (n : Nat) : List UInt8 := if gs = [] then [10] else gapText (gapRem (gs[n % gs.length]?.getD [])) (gs[n % gs.length]?.getD [])
theorem gapText_begins (rem : Bool) (g : List UInt8) : Begins (gapText rem g) := by
  cases rem
  · exact ⟨32, _, rfl, .inl rfl⟩
  · exact ⟨32, _, rfl, .inl rfl⟩
theorem blank_bl : ∀ l : List UInt8, (∀ c ∈ l, isBl c = true) → Blank l
  | [], _ => Blank.nil
  | c :: r, h => Blank.cons (h c (by simp)) (blank_bl r fun d hd => h d (by simp [hd]))
theorem gapText_blank (rem : Bool) (g : List UInt8) : Blank (gapText rem g) := by
  cases rem
  · refine blank_bl _ fun c hc => ?_
    simp only [gapText, gapHead, gapPiece, List.mem_append, List.mem_flatMap] at hc
    rcases hc with (hc | ⟨d, _, hc⟩) | hc
    · simp at hc; subst hc; decide
    · simp at hc; rcases hc with rfl | rfl | rfl | rfl <;> decide
    · simp at hc; subst hc; decide
  · have e : gapText true g = 32 :: (35 :: g.flatMap (gapPiece true) ++ [10]) := rfl
    rw [e]
    refine Blank.cons (by decide) (Blank.remark fun c hc => ?_)
    obtain ⟨d, _, hd⟩ := List.mem_flatMap.1 hc
    rintro rfl
    by_cases h : d = 10
    · subst h; simp [gapPiece] at hd
    · have : gapPiece true d = [d] := by simp [gapPiece, h]
      rw [this] at hd
      exact h (List.mem_singleton.1 hd).symm
theorem gapOf_blank (gs : List (List UInt8)) (n : Nat) : Blank (gapOf gs n) := by
  unfold gapOf
  split
  · exact Blank.cons (by decide) Blank.nil
  · exact gapText_blank _ _
theorem gapOf_begins (gs : List (List UInt8)) (n : Nat) : Begins (gapOf gs n) := by
  unfold gapOf
  split
  · exact ⟨10, [], rfl, .inr rfl⟩
  · exact gapText_begins _ _
theorem gapText_len (rem : Bool) (g : List UInt8) : (gapText rem g).length ≤ 4 * g.length + 3 := by
  have h : ∀ l : List UInt8, (l.flatMap (gapPiece rem)).length ≤ 4 * l.length := by
    intro l
    induction l with
    | nil => simp
    | cons c r ih =>
      have hp : (gapPiece rem c).length ≤ 4 := by
        unfold gapPiece
        split
        · simp
        · split <;> simp
      simp only [List.flatMap_cons, List.length_append, List.length_cons]
      omega
  have h0 : (gapHead rem).length ≤ 2 := by cases rem <;> simp [gapHead]
  have := h g
  simp only [gapText, List.length_append, List.length_cons, List.length_nil]
  omega
theorem gap_len (rem : Bool) (g : List UInt8) (k : Nat) : (gapHead rem ++ (g.take k).flatMap (gapPiece rem)).length ≤ 4 * g.length + 3 := by
  have h1 := gapText_len rem (g.take k)
  simp only [gapText, List.length_append] at h1 ⊢
  have h2 : (g.take k).length ≤ g.length := by simp; omega
  omega
theorem one4 {a b c d : Value} (ha : a.oneCell' = true) (hb : b.oneCell' = true) (hc : c.oneCell' = true) (hd : d.oneCell' = true) : ∀ x ∈ [a, b, c, d], x.oneCell' = true := by
  intro x hx
  simp only [List.mem_cons, List.not_mem_nil, or_false] at hx
  rcases hx with rfl | rfl | rfl | rfl <;> assumption
set_option maxRecDepth 100000 in
set_option maxHeartbeats 2000000 in
theorem law_gap (w : World) (v : Value) (gs : List (List UInt8)) (n : Nat) (hv : GapAt w v gs) (hn : n ≤ 1099511627776) (hgs : gs.length ≤ 1099511627776) (hg : ∀ g ∈ gs, g.length ≤ 1099511627776) :
    Calls Tryz.prog 18 #[v, .int .i64 (n : Int)] w fun e w' => e = .returned (.string ⟨(gapOf gs n).toArray⟩) ∧ Below w.heap.size w w' := by
  obtain ⟨ao, c, rfl, hc⟩ := hv
  by_cases h0 : gs = []
  · subst h0
    go_enter Tryz.func18, Tryz.ntmps18
    go_wp2_with fail
    go_ret
    exact ⟨rfl, Below.refl _ _⟩
  · have hlen : 0 < gs.length := List.length_pos_iff.2 h0
    have hm : n % gs.length < gs.length := Nat.mod_lt _ hlen
    obtain ⟨g, o, u, rfl, hg1, hg2, bo, cb, rfl, hb⟩ := hc (n % gs.length) hm
    have x0 : ((gs.length : Int) = 0) = False := eq_false (by omega)
    have hgo : gapOf gs n = gapText (gapRem gs[n % gs.length]) gs[n % gs.length] := by
      rw [gapOf, if_neg h0, List.getElem?_eq_getElem hm]; rfl
    have hgl := hg _ (List.getElem_mem hm)
    rw [hgo]
    clear hgo hg hc
    generalize gs[n % gs.length] = G at *
    have x0' : ((gs.length : Int) == 0) = false := beq_eq_false_iff_ne.2 (by omega)
    have ho1 : (w.alloc (.cells #[.int .u8 32] 5)).ownsRow w.heap.size 5 1 (.slice (some ⟨w.heap.size, 0, none⟩) 1 1) 1 (cellsOf [32]) := World.ownsRow_lit (e := 5) (size := 1) w #[.int .u8 32] 1 (Nat.le_refl _) (by unfold maxLen; omega) rfl
    have hb1 := (Below.refl w.heap.size w).alloc (Nat.le_refl _) (.cells #[.int .u8 32] 5)
    have HO1 := Lib.hid ho1
    have HB1 := Lib.hid hb1
    clear ho1 hb1
    by_cases hG : G = []
    · have hr : gapRem G = false := by rw [hG]; rfl
      rw [hr]
      have hb := Lib.hid hb
      have y0 : ((0 : Int) < (G.length : Int)) = False := by rw [hG]; exact eq_false (by simp)
      have y1 : (0 < G.length) = False := by rw [hG]; exact eq_false (by simp)
      clear hG hr
      go_enter Tryz.func18, Tryz.ntmps18
      go_wp2_with fail
      go_loopw [6, 8] (fun t6 t8 wr => ∃ k : Nat, Hid (k ≤ G.length) ∧ t8 = .int .i64 (k : Int) ∧ Hid (wr.ownsRow w.heap.size 5 1 t6 (gapHead false ++ (G.take k).flatMap (gapPiece false)).length (cellsOf (gapHead false ++ (G.take k).flatMap (gapPiece false))) ∧ Below w.heap.size w wr)) (fun _ t8 _ => G.length - (intOf t8).toNat)
      case atStart => exact ⟨0, Lib.hid (Nat.zero_le _), rfl, Lib.hid ⟨HO1.out, HB1.out⟩⟩
      case round =>
        obtain ⟨k, hk, rfl, hB⟩ := hrel
        have hl : (gapHead false ++ (G.take k).flatMap (gapPiece false)).length ≤ 4 * G.length + 3 := gap_len false G k
        obtain ⟨J, hJ⟩ : ∃ J, J = gapHead false ++ (G.take k).flatMap (gapPiece false) := ⟨_, rfl⟩
        rw [← hJ] at hB hl
        have HJ := Lib.hid hJ
        obtain ⟨hO, hBl⟩ := hB.out
        have HO := Lib.hid hO
        have HBl := Lib.hid hBl
        obtain ⟨ao, n', cap, rfl⟩ := own_form HO.out
        clear hO hBl hB hJ
        by_cases hi : k < G.length
        · have p1 : ((k : Int) < (G.length : Int)) = True := eq_true (by omega)
          have hsn : gapHead false ++ (G.take (k + 1)).flatMap (gapPiece false) = J ++ gapPiece false G[k] := by
            rw [List.take_succ_eq_append_getElem hi, HJ.out]
            simp only [List.flatMap_append, List.flatMap_cons, List.flatMap_nil, List.append_nil, List.append_assoc]
          have HSN := Lib.hid hsn
          clear hsn
          have hp : gapPiece false G[k] = [32, 9, 13, 10] := rfl
          go_wp2_with (at_builtin; refine wpList_pushN rfl (.tmp 57) (.tmp 58) 40 rfl w.heap.size 5 (.int .u8 0) 1 1 info_u8 Tryz.underlying40 rfl (by omega) _ _ _ rfl HO.out 4 [.int .u8 32, .int .u8 9, .int .u8 13, .int .u8 10] rfl rfl (one4 rfl rfl rfl rfl) (by unfold maxLen; omega) (by omega) HBl.out.size ?_)
          intro v2 w2 hown2 hgr2
          have HB3 := Lib.hid (HBl.out.grown hgr2 HBl.out.size (fun g hg => (HO.out.lt g hg).1))
          have HO3 := Lib.hid hown2
          clear hown2 hgr2
          go_wp2_with fail
          go_roundw
          case rel =>
            refine ⟨k + 1, Lib.hid hi, (by first | rfl | (simp; done) | (apply vi'; simp only [wrap64]; omega)), Lib.hid ⟨?_, HB3.out⟩⟩
            rw [HSN.out, hp, cellsOf_append, List.length_append]
            exact HO3.out
          case measure => simp [intOf]; omega
        · have p1 : ((k : Int) < (G.length : Int)) = False := eq_false (by omega)
          have hke : k = G.length := by have := hk.out; omega
          go_wp2_with (at_builtin; refine wpList_push rfl (.tmp 60) (.tmp 61) 40 rfl w.heap.size 5 (.int .u8 0) 1 1 info_u8 Tryz.underlying40 rfl (by omega) _ _ _ rfl HO.out [.int .u8 10] rfl rfl (one1 rfl) (by unfold maxLen; omega) (by omega) HBl.out.size ?_)
          intro v2 w2 hown2 hgr2
          have HB3 := Lib.hid (HBl.out.grown hgr2 HBl.out.size (fun g hg => (HO.out.lt g hg).1))
          have hfin : J ++ [10] = gapText false G := by rw [HJ.out, hke, List.take_length]; rfl
          have hown3 : w2.ownsRow w.heap.size 5 1 v2 (J ++ [10]).length (cellsOf (J ++ [10])) := by rw [cellsOf_append, List.length_append]; exact hown2
          rw [hfin] at hown3
          have hback := run_string_own (P := Tryz.prog) hown3 40 9 Tryz.underlying40 Tryz.underlying5 Tryz.underlying9
          clear hown2 hgr2 hown3 hfin
          go_wp2_with fail
          go_ret
          exact ⟨rfl, HB3.out⟩
    · have hG0 : 0 < G.length := List.length_pos_iff.2 hG
      obtain ⟨g', o', rfl, hg', hc0⟩ := hb 0 hG0
      have y0 : ((0 : Int) < (G.length : Int)) = True := eq_true (by omega)
      have hx : G[0] = atB G 0 := by simp [atB, List.getD_eq_getElem?_getD, hG0]
      rw [hx, Nat.add_zero] at hc0
      have hb := Lib.hid hb
      cases hr : (bits BinOp.and IntKind.u8 ((atB G 0).toNat : Int) 1 == 1)
      · have hr' : gapRem G = false := by rw [gapRem, hr, Bool.and_false]
        rw [hr']
        clear hr' hx
        go_enter Tryz.func18, Tryz.ntmps18
        go_wp2_with fail
        go_loopw [6, 8] (fun t6 t8 wr => ∃ k : Nat, Hid (k ≤ G.length) ∧ t8 = .int .i64 (k : Int) ∧ Hid (wr.ownsRow w.heap.size 5 1 t6 (gapHead false ++ (G.take k).flatMap (gapPiece false)).length (cellsOf (gapHead false ++ (G.take k).flatMap (gapPiece false))) ∧ Below w.heap.size w wr)) (fun _ t8 _ => G.length - (intOf t8).toNat)
        case atStart => exact ⟨0, Lib.hid (Nat.zero_le _), rfl, Lib.hid ⟨HO1.out, HB1.out⟩⟩
        case round =>
          obtain ⟨k, hk, rfl, hB⟩ := hrel
          have hl : (gapHead false ++ (G.take k).flatMap (gapPiece false)).length ≤ 4 * G.length + 3 := gap_len false G k
          obtain ⟨J, hJ⟩ : ∃ J, J = gapHead false ++ (G.take k).flatMap (gapPiece false) := ⟨_, rfl⟩
          rw [← hJ] at hB hl
          have HJ := Lib.hid hJ
          obtain ⟨hO, hBl⟩ := hB.out
          have HO := Lib.hid hO
          have HBl := Lib.hid hBl
          obtain ⟨ao, n', cap, rfl⟩ := own_form HO.out
          clear hO hBl hB hJ
          by_cases hi : k < G.length
          · have p1 : ((k : Int) < (G.length : Int)) = True := eq_true (by omega)
            have hsn : gapHead false ++ (G.take (k + 1)).flatMap (gapPiece false) = J ++ gapPiece false G[k] := by
              rw [List.take_succ_eq_append_getElem hi, HJ.out]
              simp only [List.flatMap_append, List.flatMap_cons, List.flatMap_nil, List.append_nil, List.append_assoc]
            have HSN := Lib.hid hsn
            clear hsn
            have hp : gapPiece false G[k] = [32, 9, 13, 10] := rfl
            go_wp2_with (at_builtin; refine wpList_pushN rfl (.tmp 57) (.tmp 58) 40 rfl w.heap.size 5 (.int .u8 0) 1 1 info_u8 Tryz.underlying40 rfl (by omega) _ _ _ rfl HO.out 4 [.int .u8 32, .int .u8 9, .int .u8 13, .int .u8 10] rfl rfl (one4 rfl rfl rfl rfl) (by unfold maxLen; omega) (by omega) HBl.out.size ?_)
            intro v2 w2 hown2 hgr2
            have HB3 := Lib.hid (HBl.out.grown hgr2 HBl.out.size (fun g hg => (HO.out.lt g hg).1))
            have HO3 := Lib.hid hown2
            clear hown2 hgr2
            go_wp2_with fail
            go_roundw
            case rel =>
              refine ⟨k + 1, Lib.hid hi, (by first | rfl | (simp; done) | (apply vi'; simp only [wrap64]; omega)), Lib.hid ⟨?_, HB3.out⟩⟩
              rw [HSN.out, hp, cellsOf_append, List.length_append]
              exact HO3.out
            case measure => simp [intOf]; omega
          · have p1 : ((k : Int) < (G.length : Int)) = False := eq_false (by omega)
            have hke : k = G.length := by have := hk.out; omega
            go_wp2_with (at_builtin; refine wpList_push rfl (.tmp 60) (.tmp 61) 40 rfl w.heap.size 5 (.int .u8 0) 1 1 info_u8 Tryz.underlying40 rfl (by omega) _ _ _ rfl HO.out [.int .u8 10] rfl rfl (one1 rfl) (by unfold maxLen; omega) (by omega) HBl.out.size ?_)
            intro v2 w2 hown2 hgr2
            have HB3 := Lib.hid (HBl.out.grown hgr2 HBl.out.size (fun g hg => (HO.out.lt g hg).1))
            have hfin : J ++ [10] = gapText false G := by rw [HJ.out, hke, List.take_length]; rfl
            have hown3 : w2.ownsRow w.heap.size 5 1 v2 (J ++ [10]).length (cellsOf (J ++ [10])) := by rw [cellsOf_append, List.length_append]; exact hown2
            rw [hfin] at hown3
            have hback := run_string_own (P := Tryz.prog) hown3 40 9 Tryz.underlying40 Tryz.underlying5 Tryz.underlying9
            clear hown2 hgr2 hown3 hfin
            go_wp2_with fail
            go_ret
            exact ⟨rfl, HB3.out⟩
      · have hr' : gapRem G = true := by rw [gapRem, hr, Bool.and_true]; exact decide_eq_true hG0
        rw [hr']
        clear hr' hx
        go_enter Tryz.func18, Tryz.ntmps18
        go_upto_if 30 with fail
        have hgc := (HB1.out.cell (p := ⟨g', o', none⟩) hg').trans hc0
        generalize w.alloc (.cells #[.int .u8 32] 5) = w1 at HO1 HB1 hgc ⊢
        generalize hv1 : Value.slice (some ⟨w.heap.size, 0, none⟩) 1 1 = v1 at HO1 ⊢
        clear hv1
        obtain ⟨ao1, n1, c1, rfl⟩ := own_form HO1.out
        go_wp2_with (at_builtin; refine wpList_push rfl (.tmp 31) (.tmp 32) 40 rfl w.heap.size 5 (.int .u8 0) 1 1 info_u8 Tryz.underlying40 rfl (by omega) _ _ _ rfl HO1.out [.int .u8 35] rfl rfl (one1 rfl) (by unfold maxLen; omega) (by omega) HB1.out.size ?_)
        intro v2 w2 hown2 hgr2
        have HB2 := Lib.hid (HB1.out.grown hgr2 HB1.out.size (fun g hg => (HO1.out.lt g hg).1))
        have HO2 := Lib.hid (show w2.ownsRow w.heap.size 5 1 v2 (gapHead true ++ (G.take 0).flatMap (gapPiece true)).length (cellsOf (gapHead true ++ (G.take 0).flatMap (gapPiece true))) from hown2)
        clear hown2 hgr2
        go_wp2_with fail
        go_loopw [6, 8] (fun t6 t8 wr => ∃ k : Nat, Hid (k ≤ G.length) ∧ t8 = .int .i64 (k : Int) ∧ Hid (wr.ownsRow w.heap.size 5 1 t6 (gapHead true ++ (G.take k).flatMap (gapPiece true)).length (cellsOf (gapHead true ++ (G.take k).flatMap (gapPiece true))) ∧ Below w.heap.size w wr)) (fun _ t8 _ => G.length - (intOf t8).toNat)
        case atStart => exact ⟨0, Lib.hid (Nat.zero_le _), rfl, Lib.hid ⟨HO2.out, HB2.out⟩⟩
        case round =>
          obtain ⟨k, hk, rfl, hB⟩ := hrel
          have hl : (gapHead true ++ (G.take k).flatMap (gapPiece true)).length ≤ 4 * G.length + 3 := gap_len true G k
          obtain ⟨J, hJ⟩ : ∃ J, J = gapHead true ++ (G.take k).flatMap (gapPiece true) := ⟨_, rfl⟩
          rw [← hJ] at hB hl
          have HJ := Lib.hid hJ
          obtain ⟨hO, hBl⟩ := hB.out
          have HO := Lib.hid hO
          have HBl := Lib.hid hBl
          obtain ⟨ao, n', cap, rfl⟩ := own_form HO.out
          clear hO hBl hB hJ
          by_cases hi : k < G.length
          · have p1 : ((k : Int) < (G.length : Int)) = True := eq_true (by omega)
            have hsn : gapHead true ++ (G.take (k + 1)).flatMap (gapPiece true) = J ++ gapPiece true G[k] := by
              rw [List.take_succ_eq_append_getElem hi, HJ.out]
              simp only [List.flatMap_append, List.flatMap_cons, List.flatMap_nil, List.append_nil, List.append_assoc]
            have HSN := Lib.hid hsn
            clear hsn
            obtain ⟨g2, o2, he, hg2', hck0⟩ := hb.out k hi
            obtain ⟨rfl, rfl⟩ : g2 = g' ∧ o2 = o' := by
              have he' := Option.some.inj he
              injection he' with h1 h2
              exact ⟨h1.symm, h2.symm⟩
            have hck := (HBl.out.cell (p := ⟨g2, o2 + k, none⟩) hg2').trans hck0
            obtain ⟨x, hx⟩ : ∃ x, x = G[k] := ⟨_, rfl⟩
            rw [← hx] at HSN hck
            clear he hck0 hx
            by_cases hx10 : x.toNat = 10
            · have hxx : x = 10 := (u8_eq (n := 10) (by omega)).2 hx10
              subst hxx
              have hp : gapPiece true 10 = [] := rfl
              have HO3 := Lib.hid (show wr.ownsRow w.heap.size 5 1 (.slice ao n' cap) (J.length + ([] : List UInt8).length) (cellsOf J ++ cellsOf []) by rw [← cellsOf_append, List.append_nil]; exact HO.out)
              have HB3 := HBl
              go_wp2_with fail
              go_roundw
              case rel =>
                refine ⟨k + 1, Lib.hid hi, (by first | rfl | (simp; done) | (apply vi'; simp only [wrap64]; omega)), Lib.hid ⟨?_, HB3.out⟩⟩
                rw [HSN.out, hp, cellsOf_append, List.length_append]
                exact HO3.out
              case measure => simp [intOf]; omega
            · have p2 : ((x.toNat : Int) = 10) = False := eq_false (by omega)
              have hp : gapPiece true x = [x] := by
                have : (x != 10) = true := bne_iff_ne.2 (fun h => hx10 (by rw [h]; rfl))
                simp [gapPiece, this]
              go_wp2_with (at_builtin; refine wpList_push rfl (.tmp 48) (.tmp 53) 40 rfl w.heap.size 5 (.int .u8 0) 1 1 info_u8 Tryz.underlying40 rfl (by omega) _ _ _ rfl HO.out [.int .u8 (x.toNat : Int)] rfl rfl (one1 rfl) (by unfold maxLen; omega) (by omega) HBl.out.size ?_)
              intro v2 w2 hown2 hgr2
              have HB3 := Lib.hid (HBl.out.grown hgr2 HBl.out.size (fun g hg => (HO.out.lt g hg).1))
              have HO3 := Lib.hid hown2
              clear hown2 hgr2
              go_wp2_with fail
              go_roundw
              case rel =>
                refine ⟨k + 1, Lib.hid hi, (by first | rfl | (simp; done) | (apply vi'; simp only [wrap64]; omega)), Lib.hid ⟨?_, HB3.out⟩⟩
                rw [HSN.out, hp, cellsOf_append, List.length_append]
                exact HO3.out
              case measure => simp [intOf]; omega
          · have p1 : ((k : Int) < (G.length : Int)) = False := eq_false (by omega)
            have hke : k = G.length := by have := hk.out; omega
            go_wp2_with (at_builtin; refine wpList_push rfl (.tmp 60) (.tmp 61) 40 rfl w.heap.size 5 (.int .u8 0) 1 1 info_u8 Tryz.underlying40 rfl (by omega) _ _ _ rfl HO.out [.int .u8 10] rfl rfl (one1 rfl) (by unfold maxLen; omega) (by omega) HBl.out.size ?_)
            intro v2 w2 hown2 hgr2
            have HB3 := Lib.hid (HBl.out.grown hgr2 HBl.out.size (fun g hg => (HO.out.lt g hg).1))
            have hfin : J ++ [10] = gapText true G := by rw [HJ.out, hke, List.take_length]; rfl
            have hown3 : w2.ownsRow w.heap.size 5 1 v2 (J ++ [10]).length (cellsOf (J ++ [10])) := by rw [cellsOf_append, List.length_append]; exact hown2
            rw [hfin] at hown3
            have hback := run_string_own (P := Tryz.prog) hown3 40 9 Tryz.underlying40 Tryz.underlying5 Tryz.underlying9
            clear hown2 hgr2 hown3 hfin
            go_wp2_with fail
            go_ret
            exact ⟨rfl, HB3.out⟩
end Go.Proofs.YtpkeonafcldkhaaGreatDoor
/- weirlaw11: LexWords. -/
set_option linter.unusedVariables false
set_option linter.unusedSimpArgs false
namespace Go.Proofs.YtpkeonafcldkhaaGreatDoor
open Go.RowKit

/-- Nothing is asked of num.Read. -/
theorem noNumW : NumT (fun _ => False) (fun _ _ => True) := ⟨fun _ _ => trivial, fun _ _ => trivial, fun _ _ _ h => h.elim⟩
/-- A slice of strings that can be read. -/
def StrSl (w : World) (v : Value) (ss : List ByteArray) : Prop :=
  ∃ ao c, v = .slice ao ss.length c ∧ ∀ j (h : j < ss.length), ∃ g o, ao = some ⟨g, o, none⟩ ∧ g < w.heap.size ∧ w.cell? ⟨g, o + j, none⟩ = some (.string ss[j])
set_option maxRecDepth 100000 in
set_option maxHeartbeats 1000000 in
theorem lex_Join_zero (ao : Option Addr) (c : Nat) (w : World) : Calls Tryz.prog 16 #[.slice ao 0 c] w fun e w' => e = .returned (.string ⟨#[]⟩) ∧ Below w.heap.size w w' := by
  go_enter Tryz.func16, Tryz.ntmps16
  go_wp2_with fail
  go_loopw [8] (fun t8 wr => t8 = .int .i64 0 ∧ Hid (Lib.IsBuilder 68 5 w.heap.size w.heap.size (Lib.byteCells []) wr ∧ Below w.heap.size w wr)) (fun t8 wr => 0)
  case atStart =>
    refine ⟨rfl, Lib.hid ⟨?_, ?_⟩⟩
    · exact .inl ⟨Nat.le_refl _, _, Blk.new w _ _, World.ownsRow_nil _ _ _ _, by simp [Value.ownBlock]⟩
    · exact (Below.refl _ _).alloc (Nat.le_refl _) _
  case round =>
    obtain ⟨rfl, hB⟩ := hrel
    go_wp2_with fail
    refine (Tryz.Builder_String_any w.heap.size w.heap.size [] _ hB.out.1 hB.out.2.size).mono ?_
    rintro e w2 ⟨rfl, hb2⟩
    go_wp2_with fail
    go_ret
    exact ⟨rfl, hB.out.2.trans hb2⟩
set_option maxRecDepth 100000 in
set_option maxHeartbeats 1000000 in
theorem r11_Join_zero (ao : Option Addr) (c : Nat) (w : World) : Calls Tryz.prog 26 #[.slice ao 0 c] w fun e w' => e = .returned (.string ⟨#[]⟩) ∧ Below w.heap.size w w' := by
  go_enter Tryz.func26, Tryz.ntmps26
  go_wp2_with fail
  go_loopw [3, 4] (fun t3 t4 wr => t3 = .slice none 0 0 ∧ t4 = .int .i64 0 ∧ wr = w) (fun _ _ _ => 0)
  case atStart => exact ⟨rfl, rfl, rfl⟩
  case round =>
    obtain ⟨rfl, rfl, rfl⟩ := hrel
    have hback := run_string_own (P := Tryz.prog) (l := []) (World.ownsRow_nil wr wr.heap.size 5 1) 40 9 Tryz.underlying40 Tryz.underlying5 Tryz.underlying9
    go_wp2_with fail
    go_ret
    exact ⟨rfl, Below.refl _ _⟩
/-- A slice of tokens that can be read, the empty ones too. -/
def TokSl2 (w : World) (v : Value) (xs : List (Int × ByteArray × Int)) : Prop :=
  (∃ ao c, v = .slice ao 0 c ∧ xs = []) ∨ ∃ g o c, v = .slice (some ⟨g, o, none⟩) xs.length c ∧ TokRow w g o xs
theorem TokSl2.below {w w' : World} {v : Value} {xs : List (Int × ByteArray × Int)} (h : TokSl2 w v xs) (hb : Below w.heap.size w w') : TokSl2 w' v xs := by
  rcases h with h | ⟨g, o, c, h1, h2⟩
  · exact .inl h
  · exact .inr ⟨g, o, c, h1, h2.below hb⟩
theorem TokSl2.shape {w : World} {v : Value} {xs : List (Int × ByteArray × Int)} (h : TokSl2 w v xs) : ∃ ao c, v = .slice ao xs.length c := by
  rcases h with ⟨ao, c, rfl, rfl⟩ | ⟨g, o, c, h1, h2⟩
  · exact ⟨ao, c, rfl⟩
  · exact ⟨_, c, h1⟩
theorem lex_Join_sl (w : World) (v : Value) (xs : List (Int × ByteArray × Int)) (hx : TokSl2 w v xs) (hn : xs.length ≤ 1099511627776) (hlen : (joinL (textsOf xs)).length ≤ 140737488355328) :
    Calls Tryz.prog 16 #[v] w fun e w' => e = .returned (.string ⟨(joinL (textsOf xs)).toArray⟩) ∧ Below w.heap.size w w' := by
  rcases hx with ⟨ao, c, rfl, rfl⟩ | ⟨g, o, c, rfl, hr⟩
  · exact lex_Join_zero ao c w
  · exact lex_Join w g o c xs hr hn hlen
theorem r11_Join_sl (w : World) (v : Value) (xs : List (Int × ByteArray × Int)) (hx : TokSl2 w v xs) (hn : xs.length ≤ 1099511627776) (hlen : (joinL (textsOf xs)).length ≤ 140737488355328) :
    Calls Tryz.prog 26 #[v] w fun e w' => e = .returned (.string ⟨(joinL (textsOf xs)).toArray⟩) ∧ Below w.heap.size w w' := by
  rcases hx with ⟨ao, c, rfl, rfl⟩ | ⟨g, o, c, rfl, hr⟩
  · exact r11_Join_zero ao c w
  · exact r11_Join w g o c xs hr hn hlen
set_option maxRecDepth 100000 in
set_option maxHeartbeats 2000000 in
theorem law_LexWords (w : World) (vn vt : Value) (ss : List ByteArray) (xs : List (Int × ByteArray × Int)) (hs : StrSl w vn ss) (ht : TokSl2 w vt xs) (hss : ∀ s ∈ ss, s.size ≤ maxLen) (hns : ss.length ≤ 1099511627776)
    (hn : xs.length ≤ 1099511627776) (hlen : (joinL (textsOf xs)).length ≤ 140737488355328) :
    Calls Tryz.prog 9 #[vn, vt] w fun e w' => e = .returned (.bool true) ∧ Below w.heap.size w w' := by
  obtain ⟨ao, c, rfl, hcell⟩ := hs
  obtain ⟨at', ct, rfl⟩ := ht.shape
  have HC := Lib.hid hcell
  have HT := Lib.hid ht
  have HSS := Lib.hid hss
  have HLEN := Lib.hid hlen
  clear hcell ht hss hlen
  go_enter Tryz.func9, Tryz.ntmps9
  go_wp2_with fail
  refine (law_alive noNumW _ trivial).mono ?_
  rintro e w1 ⟨rfl, hb1⟩
  have HB1 := Lib.hid hb1
  clear hb1
  go_wp2_with fail
  go_loopw [5] (fun t5 wr => ∃ k : Nat, Hid (k ≤ ss.length) ∧ t5 = .int .i64 (k : Int) ∧ Hid (Below w.heap.size w wr)) (fun t5 _ => ss.length - (intOf t5).toNat)
  case atStart => exact ⟨0, Lib.hid (Nat.zero_le _), rfl, HB1⟩
  case round =>
    obtain ⟨k, hk, rfl, hB⟩ := hrel
    by_cases hi : k < ss.length
    · have p1 : ((k : Int) < (ss.length : Int)) = True := by simp; omega
      obtain ⟨g, o, rfl, hg, hc⟩ := HC.out k hi
      have hm := HSS.out ss[k] (List.getElem_mem hi)
      obtain ⟨t, ht⟩ : ∃ t, t = ss[k] := ⟨_, rfl⟩
      rw [← ht] at hc hm
      have c1 : wr.cell? ⟨g, o + k, none⟩ = some (.string t) := (hB.out.cell (p := ⟨g, o + k, none⟩) hg).trans hc
      have HM := Lib.hid hm
      have HCC := Lib.hid hc
      clear ht hm hc
      go_wp2_with fail
      refine (lex_word t _ HM.out).mono ?_
      rintro e w2 ⟨rfl, hb2⟩
      have HB2 := Lib.hid (hB.out.trans (hb2.mono hB.out.size))
      have c2 : w2.cell? ⟨g, o + k, none⟩ = some (.string t) := (HB2.out.cell (p := ⟨g, o + k, none⟩) hg).trans HCC.out
      clear c1 hb2
      go_wp2_with fail
      refine (r11_word t _ HM.out).mono ?_
      rintro e w3 ⟨rfl, hb3⟩
      have HB3 := Lib.hid (HB2.out.trans (hb3.mono HB2.out.size))
      have c3 : w3.cell? ⟨g, o + k, none⟩ = some (.string t) := (HB3.out.cell (p := ⟨g, o + k, none⟩) hg).trans HCC.out
      clear c2 hb3
      generalize wordOut t.data.toList = X
      generalize word t.data.toList = b0
      have x2 : (b0 != b0) = false := bne_self_eq_false b0
      obtain ⟨b1, hb1⟩ : ∃ b1, isLabel t.data.toList = b1 := ⟨_, rfl⟩
      obtain ⟨b2, hb2⟩ : ∃ b2, isMetric t.data.toList = b2 := ⟨_, rfl⟩
      have x3 : (b1 != b1) = false := bne_self_eq_false b1
      have x4 : (b2 != b2) = false := bne_self_eq_false b2
      have H1 := Lib.hid hb1
      have H2 := Lib.hid hb2
      clear hb1 hb2
      go_wp2_with fail
      go_quiet (first
        | (go_at_call 21; exact Calls.quiet_of_same ((lex_isLabel t _ HM.out).mono fun _ _ ⟨h1, h2⟩ => ⟨by rw [h1, H1.out], h2.symm⟩))
        | (go_at_call 23; exact Calls.quiet_of_same ((r11_isLabel t _ HM.out).mono fun _ _ ⟨h1, h2⟩ => ⟨by rw [h1, H1.out], h2.symm⟩))
        | (go_at_call 24; exact Calls.quiet_of_same ((lex_isMetric t _ HM.out).mono fun _ _ ⟨h1, h2⟩ => ⟨by rw [h1, H2.out], h2.symm⟩))
        | (go_at_call 25; exact Calls.quiet_of_same ((r11_isMetric t _ HM.out).mono fun _ _ ⟨h1, h2⟩ => ⟨by rw [h1, H2.out], h2.symm⟩)))
      have hb4 : Below w.heap.size w (w3.drewN nq) := below_drewN HB3.out nq
      generalize w3.drewN nq = w4 at hb4 ⊢
      have HB4 := Lib.hid hb4
      clear hb4 c3
      go_wp2_with fail
      go_roundw
      case rel => exact ⟨k + 1, Lib.hid hi, (by first | rfl | (simp; done) | (apply vi'; simp only [wrap64]; omega)), HB4⟩
      case measure => simp [intOf]; omega
    · have p1 : ((k : Int) < (ss.length : Int)) = False := by simp; omega
      go_wp2_with fail
      refine (r11_Join_sl _ _ _ (HT.out.below (hB.out.mono (Nat.le_refl _))) hn HLEN.out).mono ?_
      rintro e w4 ⟨rfl, hb4⟩
      have HB4 := Lib.hid (hB.out.trans (hb4.mono hB.out.size))
      clear hb4
      go_wp2_with fail
      refine (lex_Join_sl _ _ _ (HT.out.below HB4.out) hn HLEN.out).mono ?_
      rintro e w5 ⟨rfl, hb5⟩
      have HB5 := Lib.hid (HB4.out.trans (hb5.mono HB4.out.size))
      clear hb5
      go_wp2_with fail
      go_ret
      exact ⟨by simp, HB5.out⟩
end Go.Proofs.YtpkeonafcldkhaaGreatDoor
/- weirlaw11: texts laid out again (plain). -/
set_option linter.unusedVariables false
set_option linter.unusedSimpArgs false
namespace Go.Proofs.YtpkeonafcldkhaaGreatDoor
open Go.RowKit

def preF (gap : Nat → List UInt8) : Nat → List Tok → List UInt8
  | _, [] => []
  | i, t :: r => gap i ++ (t.text ++ preF gap (i + 1) r)
theorem layF_pre (gap : Nat → List UInt8) (fin : List UInt8) : ∀ (ts : List Tok) (i : Nat), layF gap fin i ts = preF gap i ts ++ fin
  | [], i => rfl
  | t :: r, i => by rw [layF, preF, layF_pre gap fin r (i + 1)]; simp
theorem preF_snoc (gap : Nat → List UInt8) (t : Tok) : ∀ (ts : List Tok) (i : Nat), preF gap i (ts ++ [t]) = preF gap i ts ++ gap (i + ts.length) ++ t.text
  | [], i => by simp [preF]
  | u :: r, i => by
    rw [List.cons_append, preF, preF, preF_snoc gap t r (i + 1), List.length_cons, show i + 1 + r.length = i + (r.length + 1) by omega]
    simp
theorem layT_snoc (gap : Nat → List UInt8) (t : Tok) : ∀ (ts : List Tok) (i p : Nat), layT gap i p (ts ++ [t]) = layT gap i p ts ++ [⟨t.kind, t.text, p + (preF gap i ts ++ gap (i + ts.length)).length⟩]
  | [], i, p => by simp [preF, layT]
  | u :: r, i, p => by
    rw [List.cons_append, layT, layT, preF, layT_snoc gap t r (i + 1), List.length_cons, show i + 1 + r.length = i + (r.length + 1) by omega]
    have e : p + (gap i).length + u.text.length + (preF gap (i + 1) r ++ gap (i + (r.length + 1))).length = p + (gap i ++ (u.text ++ preF gap (i + 1) r) ++ gap (i + (r.length + 1))).length := by simp; omega
    rw [e]; rfl
theorem layT_len (gap : Nat → List UInt8) : ∀ (ts : List Tok) (i p : Nat), (layT gap i p ts).length = ts.length
  | [], i, p => rfl
  | u :: r, i, p => by rw [layT, List.length_cons, List.length_cons, layT_len gap r]
theorem layT_get (gap : Nat → List UInt8) : ∀ (ts : List Tok) (i p j : Nat) (h : j < ts.length) (h' : j < (layT gap i p ts).length), (layT gap i p ts)[j].kind = ts[j].kind ∧ (layT gap i p ts)[j].text = ts[j].text
  | [], i, p, j, h, h' => by simp at h
  | u :: r, i, p, 0, h, h' => ⟨rfl, rfl⟩
  | u :: r, i, p, j + 1, h, h' => by
    simp only [layT, List.getElem_cons_succ]
    exact layT_get gap r _ _ j (by simpa using h) _
/-- The gaps of Join. -/
def gapJ (i : Nat) : List UInt8 := if i = 0 then [] else [32]
theorem joinL_layS : ∀ (ts : List Tok) (i : Nat), ts ≠ [] → layF gapJ [] (i + 1) ts = 32 :: joinL (ts.map (·.text))
  | [], i, h => absurd rfl h
  | [t], i, _ => by simp [layF, gapJ, joinL]
  | t :: u :: r, i, _ => by
    have ih := joinL_layS (u :: r) (i + 1) (by simp)
    rw [layF, ih]
    simp [gapJ, joinL]
theorem joinL_lay : ∀ ts : List Tok, layF gapJ [] 0 ts = joinL (ts.map (·.text))
  | [] => rfl
  | [t] => by simp [layF, gapJ, joinL]
  | t :: u :: r => by
    rw [layF, joinL_layS (u :: r) 0 (by simp)]
    simp [gapJ, joinL]
theorem gapJ_blank (i : Nat) : Blank (gapJ i) := by
  unfold gapJ
  split
  · exact Blank.nil
  · exact Blank.cons (by decide) Blank.nil
theorem gapJ_begins (i : Nat) : Begins (gapJ (i + 1)) := ⟨32, [], by simp [gapJ], .inl rfl⟩
theorem scanAll_chain {l : List UInt8} {ts : List Tok} (h : scanAll l = (ts, none)) : Chain false false ts := by
  unfold scanAll at h
  by_cases hl : 33554432 < l.length
  · rw [if_pos hl] at h; cases h
  · rw [if_neg hl] at h
    have := scanF_chain l.length l 0 false false (Nat.le_refl _)
    rw [h] at this
    exact this
theorem scanAll_join {l : List UInt8} {ts : List Tok} (h : scanAll l = (ts, none)) (hj : (joinL (ts.map (·.text))).length ≤ 33554432) : scanAll (joinL (ts.map (·.text))) = (layT gapJ 0 0 ts, none) := by
  have hc := scanAll_chain h
  rw [scanAll, if_neg (by omega), ← joinL_lay]
  exact scanF_lay gapJ_blank gapJ_begins (.inl rfl) ts 0 0 false false hc
theorem scanAll_gaps {l : List UInt8} {ts : List Tok} (gs : List (List UInt8)) (h : scanAll l = (ts, none)) (hj : (preF (gapOf gs) 0 ts ++ gapOf gs ts.length).length ≤ 33554432) :
    scanAll (preF (gapOf gs) 0 ts ++ gapOf gs ts.length) = (layT (gapOf gs) 0 0 ts, none) := by
  have hc := scanAll_chain h
  rw [scanAll, if_neg (by omega), ← layF_pre]
  exact scanF_lay (gapOf_blank gs) (fun i => gapOf_begins gs (i + 1)) (.inr ⟨gapOf_blank gs _, gapOf_begins gs _⟩) ts 0 0 false false hc
theorem joinL_len (m : Nat) : ∀ ts : List Tok, (∀ t ∈ ts, t.text.length ≤ m) → (joinL (ts.map (·.text))).length ≤ ts.length * (m + 1)
  | [], _ => by simp [joinL]
  | [t], h => by have := h t (by simp); simp [joinL]; omega
  | t :: u :: r, h => by
    have h1 := h t (by simp)
    have ih := joinL_len m (u :: r) fun x hx => h x (by simp at hx ⊢; exact .inr hx)
    simp only [List.map_cons, joinL, List.length_append, List.length_cons] at ih ⊢
    have e : (r.length + 1 + 1) * (m + 1) = (r.length + 1) * (m + 1) + (m + 1) := by rw [Nat.add_mul (r.length + 1) 1, Nat.one_mul]
    omega
theorem own_ne {w : World} {b1 b2 : Nat} {e1 e2 : TypeId} {s1 s2 n1 n2 : Nat} {v1 v2 : Value} {x1 x2 : List Value} (h1 : w.ownsRow b1 e1 s1 v1 n1 x1) (h2 : w.ownsRow b2 e2 s2 v2 n2 x2) (hne : e1 ≠ e2) : ∀ g, v1.ownBlock = some g → some g ≠ v2.ownBlock := by
  intro g hg he
  rcases h1.2 with ⟨rfl, _⟩ | ⟨g1, c1, u1, rfl, _, k1, _⟩
  · cases hg
  · rcases h2.2 with ⟨rfl, _⟩ | ⟨g2, c2, u2, rfl, _, k2, _⟩
    · cases he
    · obtain rfl : g1 = g := by simpa [Value.ownBlock] using hg
      obtain rfl : g1 = g2 := by simpa [Value.ownBlock] using he
      rw [k1] at k2
      simp at k2
      exact hne k2.2
theorem own_belowE {w w' : World} {base : Nat} {e : TypeId} {size : Nat} {v : Value} {k : Nat} {xs : List Value} (h : w.ownsRow base e size v k xs) (hb : Below w.heap.size w w') : w'.ownsRow base e size v k xs :=
  h.kept (grown_below hb none) (by cases v.ownBlock <;> simp)
theorem own_grownE {w w' : World} {base : Nat} {e : TypeId} {size : Nat} {v u : Value} {k : Nat} {xs : List Value} (h : w.ownsRow base e size v k xs) (hg : w.grownBy w' u.ownBlock) (hne : ∀ g, v.ownBlock = some g → some g ≠ u.ownBlock) : w'.ownsRow base e size v k xs :=
  own_grown h hg hne
end Go.Proofs.YtpkeonafcldkhaaGreatDoor
/- weirlaw11: LexBack. -/
set_option linter.unusedVariables false
set_option linter.unusedSimpArgs false
namespace Go.Proofs.YtpkeonafcldkhaaGreatDoor
open Go.RowKit

theorem own_form2 {w : World} {base : Nat} {e : TypeId} {size n : Nat} {v : Value} {xs : List Value} (h : w.ownsRow base e size v n xs) : ∃ ao c', v = .slice ao n c' := by
  rcases h.2 with ⟨rfl, rfl⟩ | ⟨g, cap, cur, rfl, _⟩
  · exact ⟨_, _, rfl⟩
  · exact ⟨_, _, rfl⟩
set_option maxRecDepth 100000 in
set_option maxHeartbeats 4000000 in
theorem law_LexBack {T : Nat → World → Prop} (hT : NumT (fun _ => True) T) (w : World) (a : ByteArray) (gv : Value) (gs : List (List UInt8)) (ha : a.size ≤ 1048576) (hgv : GapAt w gv gs) (hgl : gs.length ≤ 1048576) (hgg : ∀ g ∈ gs, g.length ≤ 1048576) (hTw : T w.heap.size w) :
    Calls Tryz.prog 5 #[.string a, gv] w fun e w' => e = .returned (.bool true) ∧ Below w.heap.size w w' := by
  have HT := Lib.hid hTw
  have HG := Lib.hid hgv
  have HGG := Lib.hid hgg
  obtain ⟨go, gc, rfl, _⟩ := hgv
  clear hTw hgg
  go_enter Tryz.func5, Tryz.ntmps5
  go_wp2_with fail
  refine (law_alive hT w HT.out).mono ?_
  rintro e w1 ⟨rfl, hb1⟩
  have HT1 := Lib.hid (hT.mono (hT.keep HT.out hb1) hb1.size)
  have HB1 := Lib.hid hb1
  clear hb1
  go_wp2_with fail
  refine (lex_Scan hT _ a (by omega) (fun _ _ _ => trivial) HT1.out).mono ?_
  intro e w2 hp
  obtain ⟨ao, ca, rfl, hoa, hta, hb2⟩ := hp.open
  have HT2 := Lib.hid (hT.mono (hT.keep HT1.out hb2) hb2.size)
  have HB2 := Lib.hid (HB1.out.trans (hb2.mono HB1.out.size))
  have HTA := Lib.hid hta
  have HSL := Lib.hid (tokSl_of_own hoa)
  clear hoa hta hb2 hp
  obtain ⟨R, hR⟩ : ∃ R, R = scanAll a.data.toList := ⟨_, rfl⟩
  rw [← hR] at HTA HSL ⊢
  have HR := Lib.hid hR
  clear hR
  cases hR2 : R.2 with
  | some r1 =>
    obtain ⟨a1, e1⟩ := r1
    obtain ⟨i1, i2, i3⟩ := outErr_some hR2
    have hne := (scanAll_err (l := a.data.toList) (a := a1) (e := e1) (by rw [← HR.out]; exact hR2)).1
    rw [i1, i2]
    rw [i3] at HTA HSL ⊢
    have x1 : ((e1 : Int) = 0) = False := eq_false (by omega)
    go_wp2_with fail
    refine (lex_Join_any _ _ _ HSL.out (by simp) (by simp [joinL, textsOf])).mono ?_
    rintro e w3 ⟨rfl, hb3⟩
    have HB3 := Lib.hid (HB2.out.trans (hb3.mono HB2.out.size))
    clear hb3
    go_wp2_with fail
    go_ret
    exact ⟨rfl, HB3.out⟩
  | none =>
    obtain ⟨i1, i2, i3⟩ := outErr_none hR2
    have hsc : scanAll a.data.toList = (R.1, none) := by rw [← HR.out, ← hR2]
    have hlr := scanAll_len a.data.toList
    rw [hsc, len_data] at hlr
    have hn1 : R.1.length ≤ 1048576 := by have := hlr.1; simp only at this; omega
    rw [i1, i2]
    rw [i3] at HTA HSL ⊢
    obtain ⟨ts, hts⟩ : ∃ ts, ts = R.1 := ⟨_, rfl⟩
    rw [← hts] at HTA HSL hsc hlr hn1 ⊢
    have HSC := Lib.hid hsc
    have HLR := Lib.hid hlr
    clear hts hsc hlr i1 i2 i3 hR2 HR
    have hjl : (joinL (textsOf (ts.map tokV))).length ≤ 140737488355328 := by
      rw [textsOf_toks]
      have := joinL_len 1048576 ts fun t ht => by have := HLR.out.2 t ht; omega
      have h2 : ts.length * (1048576 + 1) ≤ 1048576 * (1048576 + 1) := Nat.mul_le_mul_right _ hn1
      omega
    have HJL := Lib.hid hjl
    clear hjl
    go_wp2_with fail
    refine (lex_Join_any _ _ _ HSL.out (by simp; omega) HJL.out).mono ?_
    rintro e w3 ⟨rfl, hb3⟩
    rw [textsOf_toks] at HJL ⊢
    have HT3 := Lib.hid (hT.mono (hT.keep HT2.out hb3) hb3.size)
    have HB3 := Lib.hid (HB2.out.trans (hb3.mono HB2.out.size))
    have HTA3 := Lib.hid (HTA.out.below hb3)
    clear hb3
    obtain ⟨J, hJ⟩ : ∃ J : ByteArray, J = ⟨(joinL (ts.map (·.text))).toArray⟩ := ⟨_, rfl⟩
    rw [← hJ]
    have hJl : J.data.toList = joinL (ts.map (·.text)) := by rw [hJ]
    have hJs : J.size = (joinL (ts.map (·.text))).length := by rw [← hJl, len_data]
    have HJ := Lib.hid (And.intro hJl hJs)
    clear hJ hJl hJs
    by_cases hbig : 33554432 < J.size
    · have x1 : ((33554432 : Int) < (J.size : Int)) = True := eq_true (by omega)
      have x2 : ((J.size : Int) > 33554432) = True := eq_true (by omega)
      go_wp2_with fail
      go_ret
      exact ⟨rfl, HB3.out⟩
    · have x1 : ((33554432 : Int) < (J.size : Int)) = False := eq_false (by omega)
      have x2 : ((J.size : Int) > 33554432) = False := eq_false (by omega)
      go_wp2_with fail
      refine (lex_Scan hT _ J (by omega) (fun _ _ _ => trivial) HT3.out).mono ?_
      intro e w4 hp
      obtain ⟨vo, cv, rfl, hov, htv, hb4⟩ := hp.open
      have hsj := scanAll_join HSC.out (by rw [← HJ.out.2]; omega)
      rw [← HJ.out.1] at hsj
      have HT4 := Lib.hid (hT.mono (hT.keep HT3.out hb4) hb4.size)
      have HB4 := Lib.hid (HB3.out.trans (hb4.mono HB3.out.size))
      have HTA4 := Lib.hid (HTA3.out.below hb4)
      rw [hsj] at htv ⊢
      simp only [outErr, outAt, outToks] at htv ⊢
      have HTV := Lib.hid htv
      have hvl : (layT gapJ 0 0 ts).length = ts.length := layT_len gapJ ts 0 0
      have hal := law_alike w4 ao vo _ _ ca cv ts (layT gapJ 0 0 ts) 0 0 false HTA4.out HTV.out (by omega) (by omega) (by omega) (fun j hj => by
        have hm := HLR.out.2 ts[j] (List.getElem_mem hj)
        have := layT_get gapJ ts 0 0 j hj (by omega)
        simp only [Nat.zero_add]
        exact ⟨by omega, this.1, this.2, fun h => by cases h⟩)
      have HAL := Lib.hid hal
      rw [hvl] at HAL ⊢
      clear hov htv hb4 hp hsj hal hvl HTA3
      go_wp2_with fail
      refine HAL.out.mono ?_
      rintro e w5 ⟨rfl, d5, rfl⟩
      have HT5 := Lib.hid (hT.mono (hT.keep HT4.out (below_drewN (Below.refl _ _) d5)) (below_drewN (Below.refl w4.heap.size w4) d5).size)
      have HB5 := Lib.hid (below_drewN HB4.out d5)
      have HTA5 := Lib.hid (HTA4.out.drewN d5)
      clear HT4 HB4 HTA4 HAL HTV HSL HTA HJL HB1 HB2 HB3 HT1 HT2 HT3
      generalize w4.drewN d5 = w5 at HT5 HB5 HTA5 ⊢
      obtain ⟨i0, hi0, hz0, hz1, hz2⟩ := info_parts info_tok
      obtain ⟨iu, hu0, hu1, hu2, hu3⟩ := info_parts info_u8
      obtain ⟨w6, hmk, hown6, hgr6⟩ := run_make_own (P := Tryz.prog) w5 w5.heap.size 24 33 i0 _ 3 Tryz.underlying24 hi0 hz0 hz1 .i64 .i64 ts.length (by rw [hz2]; omega) (by unfold maxLen; omega) (Nat.le_refl _)
      have HO6 := Lib.hid hown6
      have HB6 := Lib.hid ((Below.refl w5.heap.size w5).grown hgr6 (Nat.le_refl _) (fun g hg => by cases hg))
      clear hown6 hgr6
      have HO50 := Lib.hid (show w6.ownsRow w5.heap.size 5 1 (.slice none 0 0) 0 [] from World.ownsRow_nil _ _ _ _)
      obtain ⟨G, hG⟩ : ∃ G, G = gapOf gs := ⟨_, rfl⟩
      have HGO := Lib.hid hG
      clear hG
      have hgap : ∀ (wx : World), Below w.heap.size w wx → ∀ n : Nat, n ≤ 1048576 → Calls Tryz.prog 18 #[.slice go gs.length gc, .int .i64 (n : Int)] wx fun e w' => e = .returned (.string ⟨(G n).toArray⟩) ∧ Below wx.heap.size wx w' := fun wx hbx n hnx => by
        rw [HGO.out]
        exact law_gap wx _ gs n (HG.out.below hbx) (by omega) (by omega) (fun g hg => by have := HGG.out g hg; omega)
      have HGAP := Lib.hid hgap
      have hglen : ∀ n, (G n).length ≤ 4194310 := fun n => by
        rw [HGO.out, gapOf]
        split
        · simp
        · rename_i hne
          have hm : n % gs.length < gs.length := Nat.mod_lt _ (List.length_pos_iff.2 hne)
          rw [List.getElem?_eq_getElem hm]
          have := gapText_len (gapRem gs[n % gs.length]) gs[n % gs.length]
          have h2 := HGG.out _ (List.getElem_mem hm)
          simp only [Option.getD_some]
          omega
      have HGL := Lib.hid hglen
      clear hgap hglen
      go_wp2_with fail
      go_loopw [12, 13, 14] (fun t12 t13 t14 wr => ∃ k : Nat, Hid (k ≤ ts.length) ∧ t14 = .int .i64 (k : Int) ∧ Hid (wr.ownsRow w5.heap.size 5 1 t12 (preF G 0 (ts.take k)).length (cellsOf (preF G 0 (ts.take k))) ∧ wr.ownsRow w5.heap.size 33 3 t13 k (toksCells (layT G 0 0 (ts.take k))) ∧ Below w5.heap.size w5 wr ∧ (preF G 0 (ts.take k)).length ≤ 16777216)) (fun _ _ t14 _ => ts.length - (intOf t14).toNat)
      case atStart => exact ⟨0, Lib.hid (Nat.zero_le _), rfl, Lib.hid ⟨HO50.out, HO6.out, HB6.out, Nat.zero_le _⟩⟩
      case round =>
        obtain ⟨k, hk, rfl, hB⟩ := hrel
        obtain ⟨hb1, hb2, hb3, hb4⟩ := hB.out
        obtain ⟨bo, bc, rfl⟩ := own_form2 hb1
        obtain ⟨wo, wc, rfl⟩ := own_form2 hb2
        obtain ⟨P, hP⟩ : ∃ P, P = preF G 0 (ts.take k) := ⟨_, rfl⟩
        rw [← hP] at hb1 hb4 ⊢
        have HP := Lib.hid hP
        have HOB := Lib.hid hb1
        have HOW := Lib.hid hb2
        have HBR := Lib.hid hb3
        have HBW := Lib.hid (HB5.out.trans (hb3.mono HB5.out.size))
        clear hb1 hb2 hb3 hB hP
        by_cases hi : k < ts.length
        · have p1 : ((k : Int) < (ts.length : Int)) = True := eq_true (by omega)
          go_wp2_with fail
          refine (HGAP.out _ HBW.out k (by omega)).mono ?_
          rintro e w7 ⟨rfl, hb7⟩
          have HOB7 := Lib.hid (own_belowE HOB.out hb7)
          have HOW7 := Lib.hid (own_belowE HOW.out hb7)
          have HBR7 := Lib.hid (HBR.out.trans (hb7.mono HBR.out.size))
          clear hb7
          have hgk := HGL.out k
          have hgs : (⟨(G k).toArray⟩ : ByteArray).size = (G k).length := by rw [← len_data]
          obtain ⟨s, hs⟩ : ∃ s : ByteArray, s = ⟨(G k).toArray⟩ := ⟨_, rfl⟩
          rw [← hs] at hgs ⊢
          have HS := Lib.hid hs
          clear hs
          go_wp2_with (at_builtin; refine Lib.wpList_append_own_string _ rfl _ _ 40 9 rfl w5.heap.size 5 iu Tryz.underlying40 Tryz.underlying9 hu0 hu1 hu2 hu3 _ _ _ rfl HOB7.out s rfl (by unfold maxLen; omega) (by omega) HBR7.out.size ?_)
          intro v8 w8 hown8 hgr8 _
          have hcs : cellsOf P ++ Lib.strCells s = cellsOf (P ++ G k) := by rw [HS.out, cellsOf_append]; rfl
          have hln : P.length + (G k).length = (P ++ G k).length := List.length_append.symm
          rw [hcs, hln] at hown8
          obtain ⟨b8, c8, rfl⟩ := own_form2 hown8
          have HOB8 := Lib.hid hown8
          have HOW8 := Lib.hid (own_grown HOW7.out hgr8 (own_ne HOW7.out HOB7.out (by decide)))
          have HBR8 := Lib.hid (HBR7.out.grown hgr8 HBR7.out.size (fun g hg => (HOB7.out.lt g hg).1))
          have hl8 : (P ++ G k).length ≤ 20971526 := by rw [List.length_append]; omega
          clear hown8 hgr8 hcs hln HOB7 HOW7 HBR7 HOB HOW HBR HBW
          obtain ⟨gt, ot, rfl, hgt, c0, c1, c2⟩ := (HTA5.out.below HBR8.out).tok.2 k hi
          generalize hP8 : P ++ G k = P8 at HOB8 hl8 ⊢
          have HP8 := Lib.hid hP8
          clear hP8
          go_wp2_with fail
          -- REGION 16
          have q0 : ∀ ob, (w8.drew.alloc ob).cell? ⟨gt, ot + k * 3, none⟩ = some (.int .i64 (ts[k].kind : Int)) := fun ob => ((Below.refl w8.heap.size w8).drew.alloc (Nat.le_refl _) ob).cell (p := ⟨gt, ot + k * 3, none⟩) hgt |>.trans c0
          have q1 : ∀ ob, (w8.drew.alloc ob).cell? ⟨gt, ot + k * 3 + 1, none⟩ = some (.string ⟨ts[k].text.toArray⟩) := fun ob => ((Below.refl w8.heap.size w8).drew.alloc (Nat.le_refl _) ob).cell (p := ⟨gt, ot + k * 3 + 1, none⟩) hgt |>.trans c1
          refine wp_region_noPanic ?_
          refine wp_region_held_drew (S := fun w' => w'.cell? ⟨gt, ot + k * 3, none⟩ = some (.int .i64 (ts[k].kind : Int)) ∧ w'.cell? ⟨gt, ot + k * 3 + 1, none⟩ = some (.string ⟨ts[k].text.toArray⟩)) (by kernel_rfl) ?_ (fun hHeld => ?_)
          · exact ⟨c0, c1⟩
          refine wpAnyH_take (i := 0) (v := ?_) rfl (by kernel_rfl) (by kernel_rfl) (by kernel_rfl) (fun _ _ _ h => h) (Or.inl ⟨by rfl, ?_⟩) (by assumption) ?_
          rotate_left
          · intro wz hSw
            try dsimp only at hSw
            go_simp
            first | done | (with_reducible rfl)
          try simp only [Act.put, List.setIfInBounds_toArray, List.set_cons_zero, List.set_cons_succ]
          refine wpAnyH_take (i := 1) (v := ?_) rfl (by kernel_rfl) (by kernel_rfl) (by kernel_rfl) (fun _ _ _ h => h) (Or.inl ⟨by rfl, ?_⟩) (by assumption) ?_
          rotate_left
          · intro wz hSw
            try dsimp only at hSw
            go_simp
            first | done | (with_reducible rfl)
          try simp only [Act.put, List.setIfInBounds_toArray, List.set_cons_zero, List.set_cons_succ]
          refine wpAnyH_take (i := 2) (v := ?_) rfl (by kernel_rfl) (by kernel_rfl) (by kernel_rfl) (fun _ _ _ h => h) (Or.inl ⟨by rfl, ?_⟩) (by assumption) ?_
          rotate_left
          · intro wz hSw
            try dsimp only at hSw
            go_simp
            first | done | (with_reducible rfl)
          try simp only [Act.put, List.setIfInBounds_toArray, List.set_cons_zero, List.set_cons_succ]
          refine wpAnyH_take (i := 3) (v := ?_) rfl (by kernel_rfl) (by kernel_rfl) (by kernel_rfl) (fun _ _ _ h => h) (Or.inl ⟨by rfl, ?_⟩) (by assumption) ?_
          rotate_left
          · intro wz hSw
            try dsimp only at hSw
            go_simp
            first | done | (with_reducible rfl)
          try simp only [Act.put, List.setIfInBounds_toArray, List.set_cons_zero, List.set_cons_succ]
          refine wpAnyH_take (i := 4) (v := ?_) rfl (by kernel_rfl) (by kernel_rfl) (by kernel_rfl) (fun _ _ _ h => h) (Or.inl ⟨by rfl, ?_⟩) (by assumption) ?_
          rotate_left
          · intro wz hSw
            try dsimp only at hSw
            go_simp
            first | done | (with_reducible rfl)
          try simp only [Act.put, List.setIfInBounds_toArray, List.set_cons_zero, List.set_cons_succ]
          refine wpAnyH_take (i := 5) (v := ?_) rfl (by kernel_rfl) (by kernel_rfl) (by kernel_rfl) (fun _ _ _ h => h) (Or.inl ⟨by rfl, ?_⟩) (by assumption) ?_
          rotate_left
          · intro wz hSw
            try dsimp only at hSw
            go_simp
            first | done | (with_reducible rfl)
          try simp only [Act.put, List.setIfInBounds_toArray, List.set_cons_zero, List.set_cons_succ]
          refine wpAnyH_take (i := 6) (v := ?_) rfl (by kernel_rfl) (by kernel_rfl) (by kernel_rfl) (fun _ _ _ h => h) (Or.inl ⟨by rfl, ?_⟩) (by assumption) ?_
          rotate_left
          · intro wz hSw
            try dsimp only at hSw
            go_simp
            first | done | (with_reducible rfl)
          try simp only [Act.put, List.setIfInBounds_toArray, List.set_cons_zero, List.set_cons_succ]
          refine wpAnyH_take (i := 7) (v := ?_) rfl (by kernel_rfl) (by kernel_rfl) (by kernel_rfl) (fun _ _ _ h => h) (Or.inl ⟨by rfl, ?_⟩) (by assumption) ?_
          rotate_left
          · intro wz hSw
            try dsimp only at hSw
            go_simp
            first | done | (with_reducible rfl)
          try simp only [Act.put, List.setIfInBounds_toArray, List.set_cons_zero, List.set_cons_succ]
          refine wpAnyH_take (i := 8) (v := ?_) rfl (by kernel_rfl) (by kernel_rfl) (by kernel_rfl) (fun _ _ _ h => h) (Or.inl ⟨by rfl, ?_⟩) (by assumption) ?_
          rotate_left
          · intro wz hSw
            try dsimp only at hSw
            go_simp
            first | done | (with_reducible rfl)
          try simp only [Act.put, List.setIfInBounds_toArray, List.set_cons_zero, List.set_cons_succ]
          refine wpAnyH_take (i := 9) (v := ?_) rfl (by kernel_rfl) (by kernel_rfl) (by kernel_rfl) (fun _ _ _ h => h) (Or.inl ⟨by rfl, ?_⟩) (by assumption) ?_
          rotate_left
          · intro wz hSw
            try dsimp only at hSw
            go_simp
            first | done | (with_reducible rfl)
          try simp only [Act.put, List.setIfInBounds_toArray, List.set_cons_zero, List.set_cons_succ]
          refine wpAnyH_take (i := 10) (v := ?_) rfl (by kernel_rfl) (by kernel_rfl) (by kernel_rfl) (fun _ _ _ h => h) (Or.inl ⟨by rfl, ?_⟩) (by assumption) ?_
          rotate_left
          · intro wz hSw
            try dsimp only at hSw
            go_simp
            first | done | (with_reducible rfl)
          try simp only [Act.put, List.setIfInBounds_toArray, List.set_cons_zero, List.set_cons_succ]
          refine wpAnyH_take (i := 11) (v := ?_) rfl (by kernel_rfl) (by kernel_rfl) (by kernel_rfl) (fun _ _ _ h => h) (Or.inl ⟨by rfl, ?_⟩) (by assumption) ?_
          rotate_left
          · intro wz hSw
            try dsimp only at hSw
            go_simp
            first | done | (with_reducible rfl)
          try simp only [Act.put, List.setIfInBounds_toArray, List.set_cons_zero, List.set_cons_succ]
          refine wpAnyH_take (i := 12) (v := ?_) rfl (by kernel_rfl) (by kernel_rfl) (by kernel_rfl) (fun _ _ _ h => h) (Or.inl ⟨by rfl, ?_⟩) (by assumption) ?_
          rotate_left
          · intro wz hSw
            try dsimp only at hSw
            go_simp
            first | done | (with_reducible rfl)
          try simp only [Act.put, List.setIfInBounds_toArray, List.set_cons_zero, List.set_cons_succ]
          refine wpAnyH_take (i := 13) (v := ?_) rfl (by kernel_rfl) (by kernel_rfl) (by kernel_rfl) (fun _ _ _ h => h) (Or.inl ⟨by rfl, ?_⟩) (by assumption) ?_
          rotate_left
          · intro wz hSw
            try dsimp only at hSw
            go_simp
            first | done | (with_reducible rfl)
          try simp only [Act.put, List.setIfInBounds_toArray, List.set_cons_zero, List.set_cons_succ]
          refine wpAnyH_ready (rs := [14]) (by kernel_rfl) (by simp) ?_
          refine AllReadyH.cons (i := 14) rfl (fun K hK => ?_) AllReadyH.nil
          go_simp
          refine hK.out _ _ ⟨q0 _, q1 _⟩ (fun hHeld => ?_)
          clear hK K
          try simp only [Act.put, List.setIfInBounds_toArray, List.set_cons_zero, List.set_cons_succ]
          refine wpAnyH_ready (rs := [15]) (by kernel_rfl) (by simp) ?_
          refine AllReadyH.cons (i := 15) rfl (fun K hK => ?_) AllReadyH.nil
          have HOW9 := Lib.hid (show w8.drew.ownsRow w5.heap.size 33 3 (.slice wo k wc) k (toksCells (layT G 0 0 (ts.take k))) from HOW8.out)
          have HOB9 := Lib.hid (show w8.drew.ownsRow w5.heap.size 5 1 (.slice b8 P8.length c8) P8.length (cellsOf P8) from HOB8.out)
          have HBR9 := Lib.hid (HBR8.out.drew)
          refine step_push (w0 := w8.drew) rfl (.tmp 74) (.tmp 88) 24 rfl w5.heap.size 33 (.agg #[.int .i64 0, .string ⟨#[]⟩, .int .i64 0]) 3 32 info_tok Tryz.underlying24 rfl (by omega) _ _ _ (by rfl) HOW9.out [.int .i64 (ts[k].kind : Int), .string ⟨ts[k].text.toArray⟩, .int .i64 (P8.length : Int)] rfl (by rfl) (by intro u hu; simp at hu; rcases hu with rfl | rfl | rfl <;> rfl) (by unfold maxLen; omega) (by omega) HBR9.out.size ?_
          intro v10 w10 hown10 hgr10
          have HOB10 := Lib.hid (own_grown HOB9.out hgr10 (own_ne HOB9.out HOW9.out (by decide)))
          have HBR10 := Lib.hid (HBR9.out.grown hgr10 HBR9.out.size (fun g hg => (HOW9.out.lt g hg).1))
          obtain ⟨wo2, wc2, rfl⟩ := own_form2 hown10
          have HOW10 := Lib.hid hown10
          clear hown10 hgr10 c0 c1 c2 q0 q1 HOB8 HOW8 HBR8 HOB9 HOW9 HBR9
          obtain ⟨gt', ot', hao, hgt', c0, c1, c2⟩ := (HTA5.out.below HBR10.out).tok.2 k hi
          obtain ⟨rfl, rfl⟩ : gt' = gt ∧ ot' = ot := by
            have he' := Option.some.inj hao
            injection he' with h1 h2
            exact ⟨h1.symm, h2.symm⟩
          refine hK.out _ _ ⟨c0, c1⟩ (fun hHeld => ?_)
          clear hK K
          try simp only [Act.put, List.setIfInBounds_toArray, List.set_cons_zero, List.set_cons_succ]
          refine wpAnyH_ready (rs := [16]) (by kernel_rfl) (by simp) ?_
          refine AllReadyH.cons (i := 16) rfl (fun K hK => ?_) AllReadyH.nil
          go_simp
          refine hK.out _ _ ⟨c0, c1⟩ (fun hHeld => ?_)
          clear hK K
          try simp only [Act.put, List.setIfInBounds_toArray, List.set_cons_zero, List.set_cons_succ]
          refine wpAnyH_done (by kernel_rfl) ?_ _
          refine NoPanic.normal ?_
          -- REGION 17
          clear hao hgt' c2 hHeld
          have hXs : (⟨ts[k].text.toArray⟩ : ByteArray).size = ts[k].text.length := by rw [← len_data]
          have hXl : ts[k].text.length ≤ 1048576 := by have := HLR.out.2 ts[k] (List.getElem_mem hi); omega
          go_wp2_with (at_builtin; refine Lib.wpList_append_own_string _ rfl _ _ 40 9 rfl w5.heap.size 5 iu Tryz.underlying40 Tryz.underlying9 hu0 hu1 hu2 hu3 _ _ _ rfl HOB10.out ⟨ts[k].text.toArray⟩ rfl (by unfold maxLen; omega) (by omega) HBR10.out.size ?_)
          intro v11 w11 hown11 hgr11 _
          have hcs : cellsOf P8 ++ Lib.strCells ⟨ts[k].text.toArray⟩ = cellsOf (P8 ++ ts[k].text) := by rw [cellsOf_append]; rfl
          have hln2 : P8.length + ts[k].text.length = (P8 ++ ts[k].text).length := by rw [List.length_append]
          rw [hcs] at hown11
          try rw [hXs] at hown11
          rw [hln2] at hown11
          obtain ⟨b11, c11, rfl⟩ := own_form2 hown11
          have HOB11 := Lib.hid hown11
          have HOW11 := Lib.hid (own_grown HOW10.out hgr11 (own_ne HOW10.out HOB10.out (by decide)))
          have HBR11 := Lib.hid (HBR10.out.grown hgr11 HBR10.out.size (fun g hg => (HOB10.out.lt g hg).1))
          have hl11 : (P8 ++ ts[k].text).length ≤ 33554432 := by rw [List.length_append]; omega
          have hpk : preF G 0 (ts.take (k + 1)) = P8 ++ ts[k].text := by
            rw [List.take_succ_eq_append_getElem hi, preF_snoc, ← HP.out, ← HP8.out, List.length_take, Nat.zero_add, Nat.min_eq_left (by omega)]
          have htk : layT G 0 0 (ts.take (k + 1)) = layT G 0 0 (ts.take k) ++ [⟨ts[k].kind, ts[k].text, P8.length⟩] := by
            rw [List.take_succ_eq_append_getElem hi, layT_snoc, ← HP.out, List.length_take, Nat.zero_add, Nat.zero_add, Nat.min_eq_left (by omega), HP8.out]
          have HPK := Lib.hid hpk
          have HTK := Lib.hid htk
          clear hown11 hgr11 hcs hln2 hpk htk HOB10 HOW10 HBR10
          generalize P8 ++ ts[k].text = P11 at HOB11 hl11 HPK ⊢
          by_cases hbig : 16777216 < P11.length
          · have z1 : ((16777216 : Int) < (P11.length : Int)) = True := eq_true (by omega)
            have z2 : ((P11.length : Int) > 16777216) = True := eq_true (by omega)
            go_wp2_with fail
            go_ret
            exact ⟨rfl, HB5.out.trans (HBR11.out.mono HB5.out.size)⟩
          · have z1 : ((16777216 : Int) < (P11.length : Int)) = False := eq_false (by omega)
            have z2 : ((P11.length : Int) > 16777216) = False := eq_false (by omega)
            go_wp2_with fail
            go_roundw
            case rel =>
              refine ⟨k + 1, Lib.hid hi, (by first | rfl | (simp; done) | (apply vi'; simp only [wrap64]; omega)), Lib.hid ⟨?_, ?_, HBR11.out, by rw [HPK.out]; omega⟩⟩
              · rw [HPK.out]; exact HOB11.out
              · rw [HTK.out, toksCells_push, Tok.cells]
                exact HOW11.out
            case measure => simp [intOf]; omega
        · have hke : k = ts.length := by have := hk.out; omega
          subst hke
          have p1 : ((ts.length : Int) < (ts.length : Int)) = False := eq_false (by omega)
          rw [List.take_length] at HP HOW
          go_wp2_with fail
          refine (HGAP.out _ HBW.out ts.length (by omega)).mono ?_
          rintro e w7 ⟨rfl, hb7⟩
          have HOB7 := Lib.hid (own_belowE HOB.out hb7)
          have HOW7 := Lib.hid (own_belowE HOW.out hb7)
          have HBR7 := Lib.hid (HBR.out.trans (hb7.mono HBR.out.size))
          clear hb7
          have hgk := HGL.out ts.length
          have hgs : (⟨(G ts.length).toArray⟩ : ByteArray).size = (G ts.length).length := by rw [← len_data]
          go_wp2_with (at_builtin; refine Lib.wpList_append_own_string _ rfl _ _ 40 9 rfl w5.heap.size 5 iu Tryz.underlying40 Tryz.underlying9 hu0 hu1 hu2 hu3 _ _ _ rfl HOB7.out ⟨(G ts.length).toArray⟩ rfl (by unfold maxLen; omega) (by omega) HBR7.out.size ?_)
          intro v8 w8 hown8 hgr8 _
          have hcs : cellsOf P ++ Lib.strCells ⟨(G ts.length).toArray⟩ = cellsOf (P ++ G ts.length) := by rw [cellsOf_append]; rfl
          have hln : P.length + (G ts.length).length = (P ++ G ts.length).length := List.length_append.symm
          rw [hcs] at hown8
          try rw [hgs] at hown8
          rw [hln] at hown8
          obtain ⟨b8, c8, rfl⟩ := own_form2 hown8
          have HOW8 := Lib.hid (own_grown HOW7.out hgr8 (own_ne HOW7.out HOB7.out (by decide)))
          have HBR8 := Lib.hid (HBR7.out.grown hgr8 HBR7.out.size (fun g hg => (HOB7.out.lt g hg).1))
          have HB8 := Lib.hid (HB5.out.trans (HBR8.out.mono HB5.out.size))
          have HT8 := Lib.hid (hT.mono (hT.keep HT5.out HBR8.out) HBR8.out.size)
          have hpp : P ++ G ts.length = preF (gapOf gs) 0 ts ++ gapOf gs ts.length := by rw [HP.out, HGO.out]
          have HPP := Lib.hid hpp
          have hback := run_string_own (P := Tryz.prog) hown8 40 9 Tryz.underlying40 Tryz.underlying5 Tryz.underlying9
          clear hown8 hgr8 hcs hln hpp HOB7 HOW7 HBR7 HOB HOW HBR HBW HT5 hgs
          generalize P ++ G ts.length = P8 at HPP hback ⊢
          by_cases hbig : 16777216 < P8.length
          · have z1 : ((16777216 : Int) < (P8.length : Int)) = True := eq_true (by omega)
            have z2 : ((P8.length : Int) > 16777216) = True := eq_true (by omega)
            go_wp2_with fail
            go_ret
            exact ⟨rfl, HB8.out⟩
          · have z1 : ((16777216 : Int) < (P8.length : Int)) = False := eq_false (by omega)
            have z2 : ((P8.length : Int) > 16777216) = False := eq_false (by omega)
            have hss : (⟨P8.toArray⟩ : ByteArray).size = P8.length := by rw [← len_data]
            go_wp2_with fail
            refine (lex_Scan hT _ ⟨P8.toArray⟩ (by omega) (fun _ _ _ => trivial) HT8.out).mono ?_
            intro e w9 hp
            obtain ⟨uo, cu, rfl, hou, htu, hb9⟩ := hp.open
            have hsg := scanAll_gaps gs HSC.out (by rw [← HPP.out]; omega)
            rw [← HPP.out, ← HGO.out] at hsg
            rw [show (⟨P8.toArray⟩ : ByteArray).data.toList = P8 from rfl, hsg] at htu ⊢
            simp only [outErr, outAt, outToks] at htu ⊢
            have HB9 := Lib.hid (HB8.out.trans (hb9.mono HB8.out.size))
            have hll := layT_len G ts 0 0
            have hww : TokAt w9 (.slice wo ts.length wc) ((layT G 0 0 ts).map tokV) := by
              have h := HOW8.out
              rw [← hll] at h ⊢
              exact ((tokSl_of_own h).at).below hb9
            have hsame := law_same w9 uo wo _ _ cu wc (layT G 0 0 ts) htu hww (by omega)
            rw [hll] at hsame ⊢
            have HSAME := Lib.hid hsame
            clear hsame hww hou htu hb9 hp hsg
            go_wp2_with fail
            refine HSAME.out.mono ?_
            rintro e w10 ⟨rfl, d10, rfl⟩
            go_wp2_with fail
            go_ret
            exact ⟨rfl, below_drewN HB9.out _⟩
end Go.Proofs.YtpkeonafcldkhaaGreatDoor
/- A slice of strings, a slice of tokens among the arguments, opened. -/
set_option linter.unusedVariables false
set_option linter.unusedSimpArgs false
namespace Go.Proofs.YtpkeonafcldkhaaGreatDoor
open Go.ChangeShapes Go.WideShapes Go.RowKit Go.Deep

theorem cells_str : Tryz.prog.cellsOf 9 = 1 := by kernel_rfl
theorem cells_int : Tryz.prog.cellsOf 3 = 1 := by kernel_rfl
theorem cells_tok : Tryz.prog.cellsOf 33 = 3 := by kernel_rfl
theorem cell_in {W : World} {a : Addr} {v : Value} (h : W.cell? a = some v) : a.block < W.heap.size := by
  rcases Nat.lt_or_ge a.block W.heap.size with hlt | hge
  · exact hlt
  · unfold World.cell? at h
    rw [Array.getElem?_eq_none hge] at h
    simp at h
theorem open_strs {H : Type} {enc : TypeId × Value → H} {W : World} {a0 : Option Addr} {len cap fuel : Nat} {x : DataW H × List MemPlace}
    (hf : DataW.trod enc Tryz.prog W 0 (fun _ => true) true fuel 22 [.slice a0 len cap] = some x) :
    ∃ ss : List ByteArray, StrSl W (.slice a0 len cap) ss ∧ (∀ s ∈ ss, s.size ≤ maxLen) ∧ (ss.length = 0 ∨ ∃ es sp, x.1 = .slice es sp ∧ es.length = ss.length) := by
  rcases open_strings Tryz.underlying22 Tryz.underlying9 cells_str hf with ⟨hcs, hx⟩ | ⟨a, len', cap', ss, hcs, _, hl, hm, hz, hx, hcell, hws⟩
  · simp at hcs
    obtain ⟨rfl, rfl, rfl⟩ := hcs
    exact ⟨[], ⟨none, 0, rfl, fun j h => absurd h (by simp)⟩, by simp, .inl rfl⟩
  · simp at hcs
    obtain ⟨rfl, rfl, rfl⟩ := hcs
    subst hx
    simp only [if_true] at hz
    obtain ⟨b, off, spot⟩ := a
    have htl : (ss.take len).length = len := by simp; omega
    refine ⟨ss.take len, ⟨some ⟨b, off, spot⟩, cap, by rw [htl], fun j hj => ?_⟩, fun s hs => hws s (List.mem_of_mem_take hs), .inr ⟨_, _, rfl, by simp [strs]⟩⟩
    have hj' : j < len := by rw [htl] at hj; exact hj
    have hspot : spot = none := by simpa [Addr.add] using World.cell?_spot (hcell 0 (by omega))
    subst hspot
    refine ⟨b, off, rfl, cell_in (hcell 0 (by omega)), ?_⟩
    have := hcell j (by omega)
    rw [Addr.add_lit] at this
    rw [this, List.getElem_take]
    have hjs : j < ss.length := by omega
    simp [List.getD, hjs]
/-- A token as a datum. -/
def tokD {H : Type} (x : Int × ByteArray × Int) : DataW H := .agg [.lit (.int .i64 x.1), .lit (.string x.2.1.data.toList), .lit (.int .i64 x.2.2)]
set_option maxRecDepth 100000 in
theorem open_toks {H : Type} {enc : TypeId × Value → H} {W : World} {a0 : Option Addr} {len cap fuel : Nat} {x : DataW H × List MemPlace}
    (hf : DataW.trod enc Tryz.prog W 0 (fun _ => true) true fuel 24 [.slice a0 len cap] = some x) :
    ∃ xs : List (Int × ByteArray × Int), TokSl2 W (.slice a0 len cap) xs ∧ (xs = [] ∨ ∃ sp, x.1 = .slice (xs.map tokD) sp) := by
  rcases open_slice Tryz.underlying24 hf with ⟨hcs, hx⟩ | ⟨a, len', cap', m, n, D, Pl, hcs, _, hl, hm, hmm, hx, hel⟩
  · simp at hcs
    obtain ⟨rfl, rfl, rfl⟩ := hcs
    exact ⟨[], .inl ⟨_, _, rfl, rfl⟩, .inl rfl⟩
  · simp at hcs
    obtain ⟨rfl, rfl, rfl⟩ := hcs
    subst hx
    simp only [if_true] at hmm
    subst hmm
    have each : ∀ i, i < len → ∃ q : Int × ByteArray × Int, W.cell? (a.add (i * 3)) = some (.int .i64 q.1) ∧ W.cell? ((a.add (i * 3)).add 1) = some (.string q.2.1) ∧ W.cell? ((a.add (i * 3)).add 2) = some (.int .i64 q.2.2) ∧ D i = tokD q := by
      intro i hi
      obtain ⟨cs', h1, h2⟩ := hel i (by omega)
      rw [cells_tok] at h1
      obtain ⟨_, hlen, hcell⟩ := World.cells?_some h1
      obtain ⟨xs, k, hk, hxy, _, hxl, hf⟩ := DataW.trod_struct Tryz.underlying33 h2
      match xs, hxl, cs', hlen with
      | [y0, y1, y2], _, [v0, v1, v2], _ =>
        have g0 := hf 0 _ rfl
        have g1 := hf 1 _ rfl
        have g2 := hf 2 _ rfl
        simp [cells_int, cells_str] at g0 g1 g2
        obtain ⟨z0, e0, f0, _⟩ := DataW.trod_int Tryz.underlying3 g0
        obtain ⟨s1, e1, f1, _⟩ := DataW.trod_string Tryz.underlying9 g1
        obtain ⟨z2, e2, f2, _⟩ := DataW.trod_int Tryz.underlying3 g2
        have c0 := hcell 0 (by omega)
        have c1 := hcell 1 (by omega)
        have c2 := hcell 2 (by omega)
        simp only [List.cons.injEq, and_true] at e0 e1 e2
        subst e0; subst e1; subst e2; subst f0; subst f1; subst f2
        simp only [Prod.mk.injEq] at hxy
        exact ⟨(z0, s1, z2), by simpa [Addr.add] using c0, by simpa using c1, by simpa using c2, by simpa [tokD] using hxy.1⟩
    obtain ⟨q, hq⟩ := choose_lt each
    have hD : (List.range len).map D = ((List.range len).map q).map tokD := by
      rw [List.map_map]
      exact List.map_congr_left fun i hi => (hq i (List.mem_range.1 hi)).2.2.2
    refine ⟨(List.range len).map q, ?_, .inr ⟨_, by rw [← hD]⟩⟩
    cases len with
    | zero => exact .inl ⟨_, _, rfl, rfl⟩
    | succ l =>
      obtain ⟨b, off, spot⟩ := a
      have hspot : spot = none := by simpa [Addr.add] using World.cell?_spot (hq 0 (by omega)).1
      subst hspot
      refine .inr ⟨b, off, m, by simp, by have := cell_in (hq 0 (by omega)).1; simpa [Addr.add] using this, fun j hj => ?_⟩
      have hj' : j < l + 1 := by simpa using hj
      have e : ((List.range (l + 1)).map q)[j] = q j := by simp
      rw [e]
      obtain ⟨r0, r1, r2, _⟩ := hq j hj'
      rw [Addr.add_lit] at r0 r1 r2
      rw [Addr.add_lit] at r1 r2
      exact ⟨r0, r1, r2⟩
theorem bulk_one {H : Type} (x : DataW H) : 1 ≤ Rows.uptoBulk x := by
  cases x with
  | lit l => cases l <;> simp [Rows.uptoBulk]
  | nil => simp [Rows.uptoBulk]
  | ptr d => simp [Rows.uptoBulk]
  | slice elems spare => simp [Rows.uptoBulk]
  | agg parts => simp [Rows.uptoBulk]
  | iface t d => simp [Rows.uptoBulk]
  | map entries => simp [Rows.uptoBulk]
  | held h => simp [Rows.uptoBulk]
theorem bulk_len {H : Type} : ∀ (l : List (DataW H)), l.length ≤ Rows.uptoBulkAll l
  | [] => by simp [Rows.uptoBulkAll]
  | x :: r => by
    have h1 := bulk_one x
    have h2 := bulk_len r
    simp only [Rows.uptoBulkAll, List.length_cons]; omega
theorem bulk_toks {H : Type} : ∀ (xs : List (Int × ByteArray × Int)), (joinL (textsOf xs)).length + xs.length ≤ Rows.uptoBulkAll (H := H) (xs.map tokD)
  | [] => by simp [joinL, textsOf, Rows.uptoBulkAll]
  | [x] => by simp [joinL, textsOf, Rows.uptoBulkAll, tokD, Rows.uptoBulk]; omega
  | x :: y :: r => by
    have ih := bulk_toks (H := H) (y :: r)
    simp only [joinL, textsOf, List.map_cons, List.length_append, List.length_cons, Rows.uptoBulkAll, tokD, Rows.uptoBulk] at ih ⊢
    omega
end Go.Proofs.YtpkeonafcldkhaaGreatDoor
/- A slice of slices of bytes among the arguments, opened. -/
set_option linter.unusedVariables false
set_option linter.unusedSimpArgs false
namespace Go.Proofs.YtpkeonafcldkhaaGreatDoor
open Go.ChangeShapes Go.WideShapes Go.RowKit Go.Deep

theorem cells_u8 : Tryz.prog.cellsOf 5 = 1 := by kernel_rfl
theorem cells_bytes : Tryz.prog.cellsOf 40 = 1 := by kernel_rfl
theorem bulk_mem {H : Type} {x : DataW H} : ∀ {l : List (DataW H)}, x ∈ l → Rows.uptoBulk x ≤ Rows.uptoBulkAll l
  | y :: r, h => by
    rw [Rows.uptoBulkAll]
    rcases List.mem_cons.1 h with rfl | h
    · omega
    · have := bulk_mem h; omega
def byteOf (z : Int) : UInt8 := UInt8.ofNat z.toNat
theorem byteOf_val {z : Int} (h : 0 ≤ z ∧ z ≤ 255) : ((byteOf z).toNat : Int) = z := by
  unfold byteOf
  rw [UInt8.toNat_ofNat']
  omega
theorem open_bytes {H : Type} {enc : TypeId × Value → H} {W : World} {u : Value} {fuel : Nat} {x : DataW H × List MemPlace}
    (hf : DataW.trod enc Tryz.prog W 0 (fun _ => true) true fuel 40 [u] = some x) :
    ∃ l : List UInt8, ByteAt W u l ∧ l.length ≤ Rows.uptoBulk x.1 := by
  rcases open_ints Tryz.underlying40 Tryz.underlying5 cells_u8 hf with ⟨hcs, hx⟩ | ⟨a, len, cap, zs, hcs, _, hl, hm, hz, hx, hcell, hws⟩
  · obtain rfl : u = .slice none 0 0 := by simpa using hcs
    exact ⟨[], ⟨none, 0, rfl, fun j h => absurd h (by simp)⟩, Nat.zero_le _⟩
  · obtain rfl : u = .slice (some a) len cap := by simpa using hcs
    subst hx
    simp only [if_true] at hz
    obtain ⟨b, off, spot⟩ := a
    have htl : ((zs.take len).map byteOf).length = len := by simp; omega
    refine ⟨(zs.take len).map byteOf, ⟨some ⟨b, off, spot⟩, cap, by rw [htl], fun j hj => ?_⟩, ?_⟩
    · have hj' : j < len := by rw [htl] at hj; exact hj
      have hspot : spot = none := by simpa [Addr.add] using World.cell?_spot (hcell 0 (by omega))
      subst hspot
      refine ⟨b, off, rfl, cell_in (hcell 0 (by omega)), ?_⟩
      have := hcell j (by omega)
      rw [Addr.add_lit] at this
      have hjs : j < zs.length := by omega
      rw [this, List.getElem_map, List.getElem_take, byteOf_val (bounds_u8 (hws _ (List.getElem_mem hjs)))]
      simp [List.getD, hjs]
    · rw [htl]
      have h1 := bulk_len (H := H) (lits .u8 (zs.take len))
      have h2 : (lits (H := H) .u8 (zs.take len)).length = len := by simp [lits]; omega
      simp only [Rows.uptoBulk]
      omega
theorem open_gaps {H : Type} {enc : TypeId × Value → H} {W : World} {a0 : Option Addr} {len cap fuel : Nat} {x : DataW H × List MemPlace}
    (hf : DataW.trod enc Tryz.prog W 0 (fun _ => true) true fuel 37 [.slice a0 len cap] = some x) :
    ∃ gs : List (List UInt8), GapAt W (.slice a0 len cap) gs ∧ gs.length ≤ Rows.uptoBulk x.1 ∧ ∀ g ∈ gs, g.length ≤ Rows.uptoBulk x.1 := by
  rcases open_slice Tryz.underlying37 hf with ⟨hcs, hx⟩ | ⟨a, len', cap', m, n, D, Pl, hcs, _, hl, hm, hmm, hx, hel⟩
  · simp at hcs
    obtain ⟨rfl, rfl, rfl⟩ := hcs
    exact ⟨[], ⟨none, 0, rfl, fun j h => absurd h (by simp)⟩, Nat.zero_le _, fun g h => by cases h⟩
  · simp at hcs
    obtain ⟨rfl, rfl, rfl⟩ := hcs
    subst hx
    simp only [if_true] at hmm
    subst hmm
    have each : ∀ i, i < len → ∃ q : Value × List UInt8, W.cell? (a.add i) = some q.1 ∧ ByteAt W q.1 q.2 ∧ q.2.length ≤ Rows.uptoBulk (D i) := by
      intro i hi
      obtain ⟨cs', h1, h2⟩ := hel i (by omega)
      rw [cells_bytes] at h1
      obtain ⟨_, hlen, hcell⟩ := World.cells?_some h1
      match cs', hlen with
      | [v0], _ =>
        obtain ⟨l, hl1, hl2⟩ := open_bytes h2
        have c0 := hcell 0 (by omega)
        exact ⟨(v0, l), by simpa [Addr.add] using c0, hl1, hl2⟩
    obtain ⟨q, hq⟩ := choose_lt each
    have hall : ∀ i, i < len → Rows.uptoBulk (D i) ≤ Rows.uptoBulkAll ((List.range len).map D) := fun i hi => bulk_mem (List.mem_map.2 ⟨i, List.mem_range.2 hi, rfl⟩)
    have hlen := bulk_len ((List.range len).map D)
    simp only [List.length_map, List.length_range] at hlen
    refine ⟨(List.range len).map fun i => (q i).2, ?_, ?_, ?_⟩
    · obtain ⟨b, off, spot⟩ := a
      refine ⟨some ⟨b, off, spot⟩, m, by simp, fun j hj => ?_⟩
      have hj' : j < len := by simpa using hj
      have hspot : spot = none := by simpa [Addr.add] using World.cell?_spot (hq 0 (by omega)).1
      subst hspot
      obtain ⟨r0, r1, _⟩ := hq j hj'
      rw [Addr.add_lit] at r0
      refine ⟨b, off, (q j).1, rfl, cell_in r0, r0, ?_⟩
      have e : ((List.range len).map fun i => (q i).2)[j] = (q j).2 := by simp
      rw [e]
      exact r1
    · simp only [List.length_map, List.length_range, Rows.uptoBulk]; omega
    · intro g hg
      obtain ⟨i, hi, rfl⟩ := List.mem_map.1 hg
      have h1 := (hq i (List.mem_range.1 hi)).2.2
      have h2 := hall i (List.mem_range.1 hi)
      simp only [Rows.uptoBulk]
      omega
end Go.Proofs.YtpkeonafcldkhaaGreatDoor
