import Derived.Test.YtpkeonafcldkhaaGreatDoorBldA
import Derived.Test.YtpkeonafcldkhaaGreatDoorLexC
import Derived.Test.YtpkeonafcldkhaaGreatDoorShelf
/- lex: Join. -/
set_option linter.unusedVariables false
set_option linter.unusedSimpArgs false
namespace Go.Proofs.YtpkeonafcldkhaaGreatDoor
open Go.RowKit

def joinL : List (List UInt8) → List UInt8
  | [] => []
  | [t] => t
  | t :: u :: r => t ++ 32 :: joinL (u :: r)
theorem joinL_snoc : ∀ (l : List (List UInt8)) (t : List UInt8), joinL (l ++ [t]) = if l = [] then t else joinL l ++ 32 :: t
  | [], t => rfl
  | [a], t => by simp [joinL]
  | a :: b :: r, t => by
    have ih := joinL_snoc (b :: r) t
    rw [if_neg (by simp)] at ih
    rw [if_neg (by simp)]
    show a ++ 32 :: joinL ((b :: r) ++ [t]) = (a ++ 32 :: joinL (b :: r)) ++ 32 :: t
    rw [ih]; simp
theorem joinL_app : ∀ (a b : List (List UInt8)), (joinL a).length ≤ (joinL (a ++ b)).length
  | [], b => by simp [joinL]
  | [t], [] => by simp [joinL]
  | [t], u :: r => by simp [joinL]
  | t :: u :: r, b => by
    have ih : (joinL (u :: r)).length ≤ (joinL (u :: (r ++ b))).length := joinL_app (u :: r) b
    have e : (t :: u :: r) ++ b = t :: u :: (r ++ b) := rfl
    rw [e]
    simp only [joinL, List.length_append, List.length_cons] at *
    omega
theorem joinL_take (l : List (List UInt8)) (k : Nat) : (joinL (l.take k)).length ≤ (joinL l).length := by
  have := joinL_app (l.take k) (l.drop k)
  rwa [List.take_append_drop] at this
theorem bldAt_alloc {T e : TypeId} {B b : Nat} {p : Value} {bs : List Value} {w : World} (h : Lib.BuilderAt T e B b p bs w) (o : Obj) : Lib.BuilderAt T e B b p bs (w.alloc o) := by
  have hlt := h.lt
  obtain ⟨hB, v, hb, hown, hne⟩ := h
  exact ⟨hB, v, (Below.heap_alloc w o b hlt).trans hb, hown.alloc o, hne⟩
theorem isBld_alloc {T e : TypeId} {B b : Nat} {bs : List Value} {w : World} (h : Lib.IsBuilder T e B b bs w) (o : Obj) : Lib.IsBuilder T e B b bs (w.alloc o) := by
  rcases h with h | h
  · exact .inl (bldAt_alloc h o)
  · exact .inr (bldAt_alloc h o)
/-- A row of tokens that can be read. -/
def TokRow (w : World) (g o : Nat) (xs : List (Int × ByteArray × Int)) : Prop :=
  g < w.heap.size ∧ ∀ j (h : j < xs.length), w.cell? ⟨g, o + j * 3, none⟩ = some (.int .i64 xs[j].1) ∧ w.cell? ⟨g, o + j * 3 + 1, none⟩ = some (.string xs[j].2.1) ∧ w.cell? ⟨g, o + j * 3 + 2, none⟩ = some (.int .i64 xs[j].2.2)
def textsOf (xs : List (Int × ByteArray × Int)) : List (List UInt8) := xs.map fun x => x.2.1.data.toList
theorem vi' {k : IntKind} {a b : Int} (h : a = b) : Value.int k a = Value.int k b := by rw [h]
set_option maxRecDepth 100000 in
set_option maxHeartbeats 1000000 in
theorem lex_Join (w : World) (g o c : Nat) (xs : List (Int × ByteArray × Int)) (hx : TokRow w g o xs) (hn : xs.length ≤ 1099511627776) (hlen : (joinL (textsOf xs)).length ≤ 140737488355328) :
    Calls Tryz.prog 16 #[.slice (some ⟨g, o, none⟩) xs.length c] w fun e w' => e = .returned (.string ⟨(joinL (textsOf xs)).toArray⟩) ∧ Below w.heap.size w w' := by
  go_enter Tryz.func16, Tryz.ntmps16
  go_wp2_with fail
  go_loopw [8] (fun t8 wr => ∃ k : Nat, Hid (k ≤ xs.length) ∧ t8 = .int .i64 (k : Int) ∧ Hid (Lib.IsBuilder 68 5 w.heap.size w.heap.size (Lib.byteCells (joinL ((textsOf xs).take k))) wr ∧ Below w.heap.size w wr ∧ w.heap.size < wr.heap.size)) (fun t8 wr => xs.length - (intOf t8).toNat)
  case atStart =>
    refine ⟨0, Lib.hid (Nat.zero_le _), rfl, Lib.hid ⟨?_, ?_, ?_⟩⟩
    · exact .inl ⟨Nat.le_refl _, _, Blk.new w _ _, World.ownsRow_nil _ _ _ _, by simp [Value.ownBlock]⟩
    · exact (Below.refl _ _).alloc (Nat.le_refl _) _
    · simp
  case round =>
    obtain ⟨k, hk, rfl, hB⟩ := hrel
    by_cases hi : k < xs.length
    · have p1 : ((k : Int) < (xs.length : Int)) = True := by simp; omega
      obtain ⟨x1, x2, x3⟩ := hx.2 k hi
      have hb := hB.out.2.1
      have y1 := (hb.cell (p := ⟨g, o + k * 3, none⟩) hx.1).trans x1
      have y2 := (hb.cell (p := ⟨g, o + k * 3 + 1, none⟩) hx.1).trans x2
      have y3 := (hb.cell (p := ⟨g, o + k * 3 + 2, none⟩) hx.1).trans x3
      clear x1 x2 x3 hb
      obtain ⟨hI, hBl, hsz⟩ := hB.out
      have hI1 := isBld_alloc hI (.cells #[.int .i64 xs[k].1, .string xs[k].2.1, .int .i64 xs[k].2.2] 33)
      have hN1 := Blk.new wr 33 #[.int .i64 xs[k].1, .string xs[k].2.1, .int .i64 xs[k].2.2]
      have hB1 := hBl.alloc (Nat.le_of_lt hsz) (.cells #[.int .i64 xs[k].1, .string xs[k].2.1, .int .i64 xs[k].2.2] 33)
      have hs1 : w.heap.size ≤ (wr.alloc (.cells #[.int .i64 xs[k].1, .string xs[k].2.1, .int .i64 xs[k].2.2] 33)).heap.size := by simp; omega
      have hlen1 : (joinL ((textsOf xs).take (k + 1))).length ≤ 140737488355328 := Nat.le_trans (joinL_take _ _) hlen
      have hkt : k < (textsOf xs).length := by simp [textsOf]; exact hi
      have hsn : joinL ((textsOf xs).take (k + 1)) = if (textsOf xs).take k = [] then xs[k].2.1.data.toList else joinL ((textsOf xs).take k) ++ 32 :: xs[k].2.1.data.toList := by
        rw [List.take_succ_eq_append_getElem hkt, joinL_snoc]
        simp [textsOf]
      have HI1 := Lib.hid hI1
      have HN1 := Lib.hid hN1
      have HB1 := Lib.hid hB1
      have HS1 := Lib.hid hs1
      have HL1 := Lib.hid hlen1
      have HSN := Lib.hid hsn
      clear hI hBl hsz hI1 hN1 hB1 hs1 hlen1 hsn hkt
      by_cases k0 : 0 < k
      · have q0 : ((0 : Int) < (k : Int)) = True := by simp; omega
        have hne : ¬ (textsOf xs).take k = [] := by
          intro h
          have hl0 : ((textsOf xs).take k).length = k := by simp [textsOf]; omega
          rw [h] at hl0
          simp at hl0
          omega
        have hsn2 := HSN.out
        rw [if_neg hne] at hsn2
        have hl2 := HL1.out
        rw [hsn2, List.length_append, List.length_cons, len_data] at hl2
        have HS2 := Lib.hid hsn2
        have HL2 := Lib.hid hl2
        clear hne hsn2 hl2
        go_wp2_with fail
        refine (bld_WriteByte w.heap.size w.heap.size _ 32 _ HI1.out (by have := HL2.out; simp [Lib.byteCells]; omega) HS1.out).mono ?_
        rintro e w2 ⟨rfl, h2, hb2, hk2⟩
        have hN2 := hk2 _ _ _ (by decide) (by decide) HN1.out
        have d1 : w2.cell? ⟨wr.heap.size, 1, none⟩ = some (.string xs[k].2.1) := by rw [hN2.cell]; rfl
        have HB2 := Lib.hid (HB1.out.trans hb2)
        have H2 := Lib.hid h2
        clear hN2 hb2 h2 hk2
        go_wp2_with fail
        refine (bld_WriteString w.heap.size w.heap.size _ xs[k].2.1 _ (.inr H2.out) (by have := HL2.out; simp [Lib.byteCells]; omega) HB2.out.size).mono ?_
        rintro e w3 ⟨rfl, h3, hb3, hk3⟩
        have HB3 := Lib.hid (HB2.out.trans hb3)
        have H3 := Lib.hid h3
        clear h3 hb3 hk3
        go_wp2_with fail
        go_round
        case rel =>
          refine ⟨k + 1, Lib.hid hi, (by first | rfl | (simp; done) | (apply vi'; simp only [wrap64]; omega)), Lib.hid ⟨?_, HB3.out, ?_⟩⟩
          · rw [HS2.out]
            have e : Lib.byteCells (joinL ((textsOf xs).take k)) ++ [.int .u8 32] ++ Lib.strCells xs[k].2.1 = Lib.byteCells (joinL ((textsOf xs).take k) ++ 32 :: xs[k].2.1.data.toList) := by simp [Lib.byteCells, Lib.strCells]
            rw [← e]
            exact .inr H3.out
          · exact H3.out.lt
        case measure => simp [intOf]; omega
      · have q0 : ((0 : Int) < (k : Int)) = False := by simp; omega
        have hk0 : k = 0 := by omega
        have hsn2 := HSN.out
        rw [if_pos (by rw [hk0]; rfl)] at hsn2
        have hl2 := HL1.out
        rw [hsn2, len_data] at hl2
        have HS2 := Lib.hid hsn2
        have HL2 := Lib.hid hl2
        have HK0 := Lib.hid hk0
        clear hsn2 hl2 hk0
        go_wp2_with fail
        have hz : joinL ((textsOf xs).take k) = [] := by rw [HK0.out]; rfl
        have hzl : (joinL ((textsOf xs).take k)).length = 0 := by rw [hz]; rfl
        refine (bld_WriteString w.heap.size w.heap.size _ xs[k].2.1 _ HI1.out (by have := HL2.out; simp [Lib.byteCells]; omega) HS1.out).mono ?_
        rintro e w3 ⟨rfl, h3, hb3, hk3⟩
        have HB3 := Lib.hid (HB1.out.trans hb3)
        have H3 := Lib.hid h3
        clear h3 hb3 hk3
        go_wp2_with fail
        go_round
        case rel =>
          refine ⟨k + 1, Lib.hid hi, (by first | rfl | (simp; done) | (apply vi'; simp only [wrap64]; omega)), Lib.hid ⟨?_, HB3.out, ?_⟩⟩
          · rw [HS2.out]
            have e : Lib.byteCells (joinL ((textsOf xs).take k)) ++ Lib.strCells xs[k].2.1 = Lib.byteCells (xs[k].2.1.data.toList) := by rw [hz]; rfl
            rw [← e]
            exact .inr H3.out
          · exact H3.out.lt
        case measure => simp [intOf]; omega
    · have hke : k = xs.length := by have := hk.out; omega
      obtain ⟨hI, hBl, hsz⟩ := hB.out
      rw [hke, show (textsOf xs).take xs.length = textsOf xs from List.take_of_length_le (by simp [textsOf])] at hI
      have HI := Lib.hid hI
      have HBl := Lib.hid hBl
      clear hI hBl
      subst hke
      go_wp2_with fail
      refine (Tryz.Builder_String_any w.heap.size w.heap.size _ _ HI.out HBl.out.size).mono ?_
      rintro e w2 ⟨rfl, hb2⟩
      have HB2 := Lib.hid (HBl.out.trans hb2)
      clear hb2
      go_wp2_with fail
      go_ret
      exact ⟨rfl, HB2.out⟩
end Go.Proofs.YtpkeonafcldkhaaGreatDoor
