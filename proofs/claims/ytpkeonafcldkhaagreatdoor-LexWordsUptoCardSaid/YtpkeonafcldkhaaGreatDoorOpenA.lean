import Derived.Test.YtpkeonafcldkhaaGreatDoorLawW
import Derived.Test.YtpkeonafcldkhaaGreatDoorRows
import Derived.SliceStrings
import Derived.Deep.Slices
import Derived.OpenShut
import Derived.Carry
/- A slice of strings, a slice of tokens among the arguments, opened. -/
set_option linter.unusedVariables false
set_option linter.unusedSimpArgs false
namespace Go.Proofs.YtpkeonafcldkhaaGreatDoor
open Go.ChangeShapes Go.WideShapes Go.RowKit Go.Deep

theorem cells_str : Tryz.prog.cellsOf 9 = 1 := by kernel_rfl
theorem cells_int : Tryz.prog.cellsOf 3 = 1 := by kernel_rfl
theorem cells_tok : Tryz.prog.cellsOf 33 = 3 := by kernel_rfl
theorem cell_in {W : World} {a : Addr} {v : Value} (h : W.cell? a = some v) : a.block < W.heap.size := by
  rcases Nat.lt_or_ge a.block W.heap.size with hlt | hge
  · exact hlt
  · unfold World.cell? at h
    rw [Array.getElem?_eq_none hge] at h
    simp at h
theorem open_strs {H : Type} {enc : TypeId × Value → H} {W : World} {a0 : Option Addr} {len cap fuel : Nat} {x : DataW H × List MemPlace}
    (hf : DataW.trod enc Tryz.prog W 0 (fun _ => true) true fuel 22 [.slice a0 len cap] = some x) :
    ∃ ss : List ByteArray, StrSl W (.slice a0 len cap) ss ∧ (∀ s ∈ ss, s.size ≤ maxLen) ∧ (ss.length = 0 ∨ ∃ es sp, x.1 = .slice es sp ∧ es.length = ss.length) := by
  rcases open_strings Tryz.underlying22 Tryz.underlying9 cells_str hf with ⟨hcs, hx⟩ | ⟨a, len', cap', ss, hcs, _, hl, hm, hz, hx, hcell, hws⟩
  · simp at hcs
    obtain ⟨rfl, rfl, rfl⟩ := hcs
    exact ⟨[], ⟨none, 0, rfl, fun j h => absurd h (by simp)⟩, by simp, .inl rfl⟩
  · simp at hcs
    obtain ⟨rfl, rfl, rfl⟩ := hcs
    subst hx
    simp only [if_true] at hz
    obtain ⟨b, off, spot⟩ := a
    have htl : (ss.take len).length = len := by simp; omega
    refine ⟨ss.take len, ⟨some ⟨b, off, spot⟩, cap, by rw [htl], fun j hj => ?_⟩, fun s hs => hws s (List.mem_of_mem_take hs), .inr ⟨_, _, rfl, by simp [strs]⟩⟩
    have hj' : j < len := by rw [htl] at hj; exact hj
    have hspot : spot = none := by simpa [Addr.add] using World.cell?_spot (hcell 0 (by omega))
    subst hspot
    refine ⟨b, off, rfl, cell_in (hcell 0 (by omega)), ?_⟩
    have := hcell j (by omega)
    rw [Addr.add_lit] at this
    rw [this, List.getElem_take]
    have hjs : j < ss.length := by omega
    simp [List.getD, hjs]
/-- A token as a datum. -/
def tokD {H : Type} (x : Int × ByteArray × Int) : DataW H := .agg [.lit (.int .i64 x.1), .lit (.string x.2.1.data.toList), .lit (.int .i64 x.2.2)]
set_option maxRecDepth 100000 in
theorem open_toks {H : Type} {enc : TypeId × Value → H} {W : World} {a0 : Option Addr} {len cap fuel : Nat} {x : DataW H × List MemPlace}
    (hf : DataW.trod enc Tryz.prog W 0 (fun _ => true) true fuel 24 [.slice a0 len cap] = some x) :
    ∃ xs : List (Int × ByteArray × Int), TokSl2 W (.slice a0 len cap) xs ∧ (xs = [] ∨ ∃ sp, x.1 = .slice (xs.map tokD) sp) := by
  rcases open_slice Tryz.underlying24 hf with ⟨hcs, hx⟩ | ⟨a, len', cap', m, n, D, Pl, hcs, _, hl, hm, hmm, hx, hel⟩
  · simp at hcs
    obtain ⟨rfl, rfl, rfl⟩ := hcs
    exact ⟨[], .inl ⟨_, _, rfl, rfl⟩, .inl rfl⟩
  · simp at hcs
    obtain ⟨rfl, rfl, rfl⟩ := hcs
    subst hx
    simp only [if_true] at hmm
    subst hmm
    have each : ∀ i, i < len → ∃ q : Int × ByteArray × Int, W.cell? (a.add (i * 3)) = some (.int .i64 q.1) ∧ W.cell? ((a.add (i * 3)).add 1) = some (.string q.2.1) ∧ W.cell? ((a.add (i * 3)).add 2) = some (.int .i64 q.2.2) ∧ D i = tokD q := by
      intro i hi
      obtain ⟨cs', h1, h2⟩ := hel i (by omega)
      rw [cells_tok] at h1
      obtain ⟨_, hlen, hcell⟩ := World.cells?_some h1
      obtain ⟨xs, k, hk, hxy, _, hxl, hf⟩ := DataW.trod_struct Tryz.underlying33 h2
      match xs, hxl, cs', hlen with
      | [y0, y1, y2], _, [v0, v1, v2], _ =>
        have g0 := hf 0 _ rfl
        have g1 := hf 1 _ rfl
        have g2 := hf 2 _ rfl
        simp [cells_int, cells_str] at g0 g1 g2
        obtain ⟨z0, e0, f0, _⟩ := DataW.trod_int Tryz.underlying3 g0
        obtain ⟨s1, e1, f1, _⟩ := DataW.trod_string Tryz.underlying9 g1
        obtain ⟨z2, e2, f2, _⟩ := DataW.trod_int Tryz.underlying3 g2
        have c0 := hcell 0 (by omega)
        have c1 := hcell 1 (by omega)
        have c2 := hcell 2 (by omega)
        simp only [List.cons.injEq, and_true] at e0 e1 e2
        subst e0; subst e1; subst e2; subst f0; subst f1; subst f2
        simp only [Prod.mk.injEq] at hxy
        exact ⟨(z0, s1, z2), by simpa [Addr.add] using c0, by simpa using c1, by simpa using c2, by simpa [tokD] using hxy.1⟩
    obtain ⟨q, hq⟩ := choose_lt each
    have hD : (List.range len).map D = ((List.range len).map q).map tokD := by
      rw [List.map_map]
      exact List.map_congr_left fun i hi => (hq i (List.mem_range.1 hi)).2.2.2
    refine ⟨(List.range len).map q, ?_, .inr ⟨_, by rw [← hD]⟩⟩
    cases len with
    | zero => exact .inl ⟨_, _, rfl, rfl⟩
    | succ l =>
      obtain ⟨b, off, spot⟩ := a
      have hspot : spot = none := by simpa [Addr.add] using World.cell?_spot (hq 0 (by omega)).1
      subst hspot
      refine .inr ⟨b, off, m, by simp, by have := cell_in (hq 0 (by omega)).1; simpa [Addr.add] using this, fun j hj => ?_⟩
      have hj' : j < l + 1 := by simpa using hj
      have e : ((List.range (l + 1)).map q)[j] = q j := by simp
      rw [e]
      obtain ⟨r0, r1, r2, _⟩ := hq j hj'
      rw [Addr.add_lit] at r0 r1 r2
      rw [Addr.add_lit] at r1 r2
      exact ⟨r0, r1, r2⟩
theorem bulk_one {H : Type} (x : DataW H) : 1 ≤ Rows.uptoBulk x := by
  cases x with
  | lit l => cases l <;> simp [Rows.uptoBulk]
  | nil => simp [Rows.uptoBulk]
  | ptr d => simp [Rows.uptoBulk]
  | slice elems spare => simp [Rows.uptoBulk]
  | agg parts => simp [Rows.uptoBulk]
  | iface t d => simp [Rows.uptoBulk]
  | map entries => simp [Rows.uptoBulk]
  | held h => simp [Rows.uptoBulk]
theorem bulk_len {H : Type} : ∀ (l : List (DataW H)), l.length ≤ Rows.uptoBulkAll l
  | [] => by simp [Rows.uptoBulkAll]
  | x :: r => by
    have h1 := bulk_one x
    have h2 := bulk_len r
    simp only [Rows.uptoBulkAll, List.length_cons]; omega
theorem bulk_toks {H : Type} : ∀ (xs : List (Int × ByteArray × Int)), (joinL (textsOf xs)).length + xs.length ≤ Rows.uptoBulkAll (H := H) (xs.map tokD)
  | [] => by simp [joinL, textsOf, Rows.uptoBulkAll]
  | [x] => by simp [joinL, textsOf, Rows.uptoBulkAll, tokD, Rows.uptoBulk]; omega
  | x :: y :: r => by
    have ih := bulk_toks (H := H) (y :: r)
    simp only [joinL, textsOf, List.map_cons, List.length_append, List.length_cons, Rows.uptoBulkAll, tokD, Rows.uptoBulk] at ih ⊢
    omega
end Go.Proofs.YtpkeonafcldkhaaGreatDoor
