import Derived.Test.YtpkeonafcldkhaaGreatDoorLexI
import Derived.Test.YtpkeonafcldkhaaGreatDoorUtfE
import Derived.Test.YtpkeonafcldkhaaGreatDoorRefA
/- weirref11: Join; lex.Join, of any slice of tokens. -/
set_option linter.unusedVariables false
set_option linter.unusedSimpArgs false
namespace Go.Proofs.YtpkeonafcldkhaaGreatDoor
open Go.RowKit

/-- A slice of tokens that can be read. -/
def TokSl (w : World) (v : Value) (xs : List (Int × ByteArray × Int)) : Prop :=
  (v = .slice none 0 0 ∧ xs = []) ∨ ∃ g o c, v = .slice (some ⟨g, o, none⟩) xs.length c ∧ TokRow w g o xs
theorem TokRow.below {w w' : World} {g o : Nat} {xs : List (Int × ByteArray × Int)} (h : TokRow w g o xs) (hb : Below w.heap.size w w') : TokRow w' g o xs :=
  ⟨Nat.lt_of_lt_of_le h.1 hb.size, fun j hj => ⟨(hb.cell (p := ⟨g, _, none⟩) h.1).trans (h.2 j hj).1, (hb.cell (p := ⟨g, _, none⟩) h.1).trans (h.2 j hj).2.1, (hb.cell (p := ⟨g, _, none⟩) h.1).trans (h.2 j hj).2.2⟩⟩
theorem TokSl.below {w w' : World} {v : Value} {xs : List (Int × ByteArray × Int)} (h : TokSl w v xs) (hb : Below w.heap.size w w') : TokSl w' v xs := by
  rcases h with h | ⟨g, o, c, h1, h2⟩
  · exact .inl h
  · exact .inr ⟨g, o, c, h1, h2.below hb⟩
set_option maxRecDepth 100000 in
set_option maxHeartbeats 1000000 in
theorem lex_Join_nil (w : World) : Calls Tryz.prog 16 #[.slice none 0 0] w fun e w' => e = .returned (.string ⟨#[]⟩) ∧ Below w.heap.size w w' := by
  go_enter Tryz.func16, Tryz.ntmps16
  go_wp2_with fail
  go_loopw [8] (fun t8 wr => t8 = .int .i64 0 ∧ Hid (Lib.IsBuilder 68 5 w.heap.size w.heap.size (Lib.byteCells []) wr ∧ Below w.heap.size w wr)) (fun t8 wr => 0)
  case atStart =>
    refine ⟨rfl, Lib.hid ⟨?_, ?_⟩⟩
    · exact .inl ⟨Nat.le_refl _, _, Blk.new w _ _, World.ownsRow_nil _ _ _ _, by simp [Value.ownBlock]⟩
    · exact (Below.refl _ _).alloc (Nat.le_refl _) _
  case round =>
    obtain ⟨rfl, hB⟩ := hrel
    go_wp2_with fail
    refine (Tryz.Builder_String_any w.heap.size w.heap.size [] _ hB.out.1 hB.out.2.size).mono ?_
    rintro e w2 ⟨rfl, hb2⟩
    go_wp2_with fail
    go_ret
    exact ⟨rfl, hB.out.2.trans hb2⟩
theorem lex_Join_any (w : World) (v : Value) (xs : List (Int × ByteArray × Int)) (hx : TokSl w v xs) (hn : xs.length ≤ 1099511627776) (hlen : (joinL (textsOf xs)).length ≤ 140737488355328) :
    Calls Tryz.prog 16 #[v] w fun e w' => e = .returned (.string ⟨(joinL (textsOf xs)).toArray⟩) ∧ Below w.heap.size w w' := by
  rcases hx with ⟨rfl, rfl⟩ | ⟨g, o, c, rfl, hr⟩
  · exact lex_Join_nil w
  · exact lex_Join w g o c xs hr hn hlen
set_option maxRecDepth 100000 in
set_option maxHeartbeats 1000000 in
theorem r11_Join_nil (w : World) : Calls Tryz.prog 26 #[.slice none 0 0] w fun e w' => e = .returned (.string ⟨#[]⟩) ∧ Below w.heap.size w w' := by
  go_enter Tryz.func26, Tryz.ntmps26
  go_wp2_with fail
  go_loopw [3, 4] (fun t3 t4 wr => t3 = .slice none 0 0 ∧ t4 = .int .i64 0 ∧ wr = w) (fun _ _ _ => 0)
  case atStart => exact ⟨rfl, rfl, rfl⟩
  case round =>
    obtain ⟨rfl, rfl, rfl⟩ := hrel
    have hback := run_string_own (P := Tryz.prog) (l := []) (World.ownsRow_nil wr wr.heap.size 5 1) 40 9 Tryz.underlying40 Tryz.underlying5 Tryz.underlying9
    go_wp2_with fail
    go_ret
    exact ⟨rfl, Below.refl _ _⟩
set_option maxRecDepth 100000 in
set_option maxHeartbeats 1000000 in
theorem r11_Join (w : World) (g o c : Nat) (xs : List (Int × ByteArray × Int)) (hx : TokRow w g o xs) (hn : xs.length ≤ 1099511627776) (hlen : (joinL (textsOf xs)).length ≤ 140737488355328) :
    Calls Tryz.prog 26 #[.slice (some ⟨g, o, none⟩) xs.length c] w fun e w' => e = .returned (.string ⟨(joinL (textsOf xs)).toArray⟩) ∧ Below w.heap.size w w' := by
  obtain ⟨i0, hi0, hz0, hz1, hz2⟩ := info_parts info_u8
  go_enter Tryz.func26, Tryz.ntmps26
  go_wp2_with fail
  go_loopw [3, 4] (fun t3 t4 wr => ∃ k : Nat, Hid (k ≤ xs.length) ∧ t4 = .int .i64 (k : Int) ∧ Hid (wr.ownsRow w.heap.size 5 1 t3 (joinL ((textsOf xs).take k)).length (cellsOf (joinL ((textsOf xs).take k))) ∧ Below w.heap.size w wr)) (fun _ t4 _ => xs.length - (intOf t4).toNat)
  case atStart =>
    exact ⟨0, Lib.hid (Nat.zero_le _), rfl, Lib.hid ⟨World.ownsRow_nil _ _ _ _, Below.refl _ _⟩⟩
  case round =>
    obtain ⟨k, hk, rfl, hB⟩ := hrel
    by_cases hi : k < xs.length
    · have p1 : ((k : Int) < (xs.length : Int)) = True := by simp; omega
      obtain ⟨x1, x2, x3⟩ := hx.2 k hi
      have hb := hB.out.2
      have y2 := (hb.cell (p := ⟨g, o + k * 3 + 1, none⟩) hx.1).trans x2
      clear x1 x2 x3 hb
      obtain ⟨hO, hBl⟩ := hB.out
      have hlen1 : (joinL ((textsOf xs).take (k + 1))).length ≤ 140737488355328 := Nat.le_trans (joinL_take _ _) hlen
      have hkt : k < (textsOf xs).length := by simp [textsOf]; exact hi
      have hsn : joinL ((textsOf xs).take (k + 1)) = if (textsOf xs).take k = [] then xs[k].2.1.data.toList else joinL ((textsOf xs).take k) ++ 32 :: xs[k].2.1.data.toList := by
        rw [List.take_succ_eq_append_getElem hkt, joinL_snoc]
        simp [textsOf]
      have HO := Lib.hid hO
      have HBl := Lib.hid hBl
      have HL1 := Lib.hid hlen1
      have HSN := Lib.hid hsn
      clear hO hBl hlen1 hsn hkt hB
      obtain ⟨J, hJ⟩ : ∃ J, J = joinL ((textsOf xs).take k) := ⟨_, rfl⟩
      rw [← hJ] at HO
      have HJ := Lib.hid hJ
      clear hJ
      by_cases k0 : 0 < k
      · have q0 : ((0 : Int) < (k : Int)) = True := by simp; omega
        have hne : ¬ (textsOf xs).take k = [] := by
          intro h
          have hl0 : ((textsOf xs).take k).length = k := by simp [textsOf]; omega
          rw [h] at hl0
          simp at hl0
          omega
        have hsn2 := HSN.out
        rw [if_neg hne, ← HJ.out] at hsn2
        have hl2 := HL1.out
        rw [hsn2, List.length_append, List.length_cons, len_data] at hl2
        have HS2 := Lib.hid hsn2
        have HL2 := Lib.hid hl2
        clear hne hsn2 hl2
        go_wp2_with (at_builtin; refine wpList_push rfl (.tmp 13) (.tmp 14) 40 rfl w.heap.size 5 (.int .u8 0) 1 1 info_u8 Tryz.underlying40 rfl (by omega) _ _ _ rfl HO.out [.int .u8 32] rfl rfl (one1 rfl) (by have := HL2.out; unfold maxLen; omega) (by have := HL2.out; omega) HBl.out.size ?_)
        intro v2 w2 hown2 hgr2
        have HB2 := Lib.hid (HBl.out.grown hgr2 HBl.out.size (fun g hg => (HO.out.lt g hg).1))
        have HO2 := Lib.hid hown2
        clear hown2 hgr2
        have y3 : w2.cell? ⟨g, o + k * 3 + 1, none⟩ = some (.string xs[k].2.1) := (HB2.out.cell (p := ⟨g, o + k * 3 + 1, none⟩) hx.1).trans (hx.2 k hi).2.1
        obtain ⟨ao, n', cap, rfl⟩ : ∃ ao n' cap, v2 = .slice ao n' cap := by
          rcases HO2.out.2 with ⟨hv, _⟩ | ⟨g, cap, cur, hv, _⟩
          · exact ⟨_, _, _, hv⟩
          · exact ⟨_, _, _, hv⟩
        go_wp2_with (at_builtin; refine Lib.wpList_append_own_string _ rfl _ _ 40 9 rfl w.heap.size 5 i0 Tryz.underlying40 Tryz.underlying9 hi0 hz0 hz1 hz2 _ _ _ rfl HO2.out xs[k].2.1 rfl (by have := HL2.out; unfold maxLen; omega) (by have := HL2.out; omega) HB2.out.size ?_)
        intro v3 w3 hown3 hgr3 _
        have HB3 := Lib.hid (HB2.out.grown hgr3 HB2.out.size (fun g hg => (HO2.out.lt g hg).1))
        have HO3 := Lib.hid hown3
        clear hown3 hgr3
        go_wp2_with fail
        go_roundw
        case rel =>
          refine ⟨k + 1, Lib.hid hi, (by first | rfl | (simp; done) | (apply vi'; simp only [wrap64]; omega)), Lib.hid ⟨?_, HB3.out⟩⟩
          rw [HS2.out]
          have e : cellsOf J ++ .int .u8 32 :: Lib.strCells xs[k].2.1 = cellsOf (J ++ 32 :: xs[k].2.1.data.toList) := by simp [cellsOf, Lib.strCells]
          have e2 : J.length + 1 + xs[k].2.1.size = (J ++ 32 :: xs[k].2.1.data.toList).length := by rw [List.length_append, List.length_cons, len_data]; omega
          rw [← e, ← e2]
          exact HO3.out
        case measure => simp [intOf]; omega
      · have q0 : ((0 : Int) < (k : Int)) = False := by simp; omega
        have hk0 : k = 0 := by omega
        have hsn2 := HSN.out
        rw [if_pos (by rw [hk0]; rfl)] at hsn2
        have hl2 := HL1.out
        rw [hsn2, len_data] at hl2
        have hj0 : J = [] := by rw [HJ.out, hk0]; rfl
        have HS2 := Lib.hid hsn2
        have HL2 := Lib.hid hl2
        have HJ0 := Lib.hid hj0
        clear hsn2 hl2 hj0
        have hjl : J.length = 0 := by rw [HJ0.out]; rfl
        obtain ⟨ao, n', cap, rfl⟩ : ∃ ao n' cap, u3 = .slice ao n' cap := by
          rcases HO.out.2 with ⟨hv, _⟩ | ⟨g, cap, cur, hv, _⟩
          · exact ⟨_, _, _, hv⟩
          · exact ⟨_, _, _, hv⟩
        have c4 : J.length + xs[k].2.1.size ≤ 140737488355328 := by have := HL2.out; omega
        have c3 : J.length + xs[k].2.1.size ≤ maxLen := by unfold maxLen; omega
        have C3 := Lib.hid c3
        have C4 := Lib.hid c4
        have HK0 := Lib.hid hk0
        clear c3 c4 hjl hk0
        go_wp2_with (at_builtin; refine Lib.wpList_append_own_string _ rfl _ _ 40 9 rfl w.heap.size 5 i0 Tryz.underlying40 Tryz.underlying9 hi0 hz0 hz1 hz2 _ _ _ rfl HO.out xs[k].2.1 rfl C3.out C4.out HBl.out.size ?_)
        intro v3 w3 hown3 hgr3 _
        have HB3 := Lib.hid (HBl.out.grown hgr3 HBl.out.size (fun g hg => (HO.out.lt g hg).1))
        have HO3 := Lib.hid hown3
        clear hown3 hgr3
        go_wp2_with fail
        go_roundw
        case rel =>
          refine ⟨k + 1, Lib.hid hi, (by first | rfl | (simp; done) | (apply vi'; simp only [wrap64]; omega)), Lib.hid ⟨?_, HB3.out⟩⟩
          rw [HS2.out]
          have e : cellsOf J ++ Lib.strCells xs[k].2.1 = cellsOf (xs[k].2.1.data.toList) := by rw [HJ0.out]; simp [cellsOf, Lib.strCells]
          have e2 : J.length + xs[k].2.1.size = (xs[k].2.1.data.toList).length := by rw [len_data, HJ0.out, List.length_nil]; omega
          rw [← e, ← e2]
          exact HO3.out
        case measure => simp [intOf]; omega
    · have hke : k = xs.length := by have := hk.out; omega
      obtain ⟨hO, hBl⟩ := hB.out
      rw [hke, show (textsOf xs).take xs.length = textsOf xs from List.take_of_length_le (by simp [textsOf])] at hO
      have hback := run_string_own (P := Tryz.prog) hO 40 9 Tryz.underlying40 Tryz.underlying5 Tryz.underlying9
      have HBl := Lib.hid hBl
      clear hO hBl hB
      subst hke
      go_wp2_with fail
      go_ret
      exact ⟨rfl, HBl.out⟩
theorem r11_Join_any (w : World) (v : Value) (xs : List (Int × ByteArray × Int)) (hx : TokSl w v xs) (hn : xs.length ≤ 1099511627776) (hlen : (joinL (textsOf xs)).length ≤ 140737488355328) :
    Calls Tryz.prog 26 #[v] w fun e w' => e = .returned (.string ⟨(joinL (textsOf xs)).toArray⟩) ∧ Below w.heap.size w w' := by
  rcases hx with ⟨rfl, rfl⟩ | ⟨g, o, c, rfl, hr⟩
  · exact r11_Join_nil w
  · exact r11_Join w g o c xs hr hn hlen
end Go.Proofs.YtpkeonafcldkhaaGreatDoor
