import Derived.Test.YtpkeonafcldkhaaGreatDoorQ12
import Derived.Test.YtpkeonafcldkhaaGreatDoorQ07
import Derived.Lib.IndexAny
import Derived.WalkMore
import Derived.ScopeJumps
import Derived.OwnWalk
import Derived.Laws.OwnMore
import Derived.Deep.CutBlock
import Derived.Test.YtpkeonafcldkhaaGreatDoorRows
import Derived.SliceStrings
import Derived.Deep.Slices
import Derived.OpenShut
import Derived.Carry
import Derived.StillTailTactics
/- Part of the proof of YtpkeonafcldkhaaGreatDoorCardS CardV: LawF LawH OpenA LawI LawG RbA RbD OvB. -/
set_option linter.unusedVariables false
set_option linter.unusedSimpArgs false
namespace Go.Proofs.YtpkeonafcldkhaaGreatDoor
open Go.RowKit
theorem own_belowE {w w' : World} {base : Nat} {e : TypeId} {size : Nat} {v : Value} {k : Nat} {xs : List Value} (h : w.ownsRow base e size v k xs) (hb : Below w.heap.size w w') : w'.ownsRow base e size v k xs :=
 h.kept (grown_below hb none) (by cases v.ownBlock <;> simp)
abbrev Row := Int × ByteArray × Int
def Row.cells (x : Row) : List Value := [.int .i64 x.1, .string x.2.1, .int .i64 x.2.2]
def rowCells (xs : List Row) : List Value := xs.flatMap Row.cells
theorem own_mono {w : World} {b b' : Nat} {e : TypeId} {size n : Nat} {v : Value} {xs : List Value} (h : w.ownsRow b e size v n xs) (hb : b' ≤ b) : w.ownsRow b' e size v n xs := by
 refine ⟨h.1, ?_⟩
 rcases h.2 with hn | ⟨g, cap, cur, rfl, h1, h2⟩
 ·exact .inl hn
 ·exact .inr ⟨g, cap, cur, rfl, Nat.le_trans hb h1, h2⟩
theorem own_some {w : World} {base : Nat} {e : TypeId} {size n m c : Nat} {ao : Option Addr} {xs : List Value} (h : w.ownsRow base e size (.slice ao n c) m xs) (hm : 0 < m) : ∃ g, ao = some ⟨g, 0, none⟩ ∧ base ≤ g ∧ g < w.heap.size := by
 rcases h.2 with ⟨hv, h0⟩ | ⟨g, cap, cur, hv, hb, hg, _⟩
 ·omega
 ·injection hv with h1 h2 h3
  subst h1
  exact ⟨g, rfl, hb, (h.lt g rfl).2⟩
end Go.Proofs.YtpkeonafcldkhaaGreatDoor
set_option linter.unusedVariables false
set_option linter.unusedSimpArgs false
namespace Go.Proofs.YtpkeonafcldkhaaGreatDoor
open Go.ChangeShapes Go.WideShapes Go.RowKit Go.Deep
theorem cells_str : Tryz.prog.cellsOf 9 = 1 := by kernel_rfl
theorem cell_in {W : World} {a : Addr} {v : Value} (h : W.cell? a = some v) : a.block < W.heap.size := by
 rcases Nat.lt_or_ge a.block W.heap.size with hlt | hge
 ·exact hlt
 ·unfold World.cell? at h
  rw [Array.getElem?_eq_none hge] at h
  simp at h
theorem bulk_one {H : Type} (x : DataW H) : 1 ≤ Rows.uptoBulk x := by
 cases x with
 |lit l => cases l <;> simp [Rows.uptoBulk]
 |nil => simp [Rows.uptoBulk]
 |ptr d => simp [Rows.uptoBulk]
 |slice elems spare => simp [Rows.uptoBulk]
 |agg parts => simp [Rows.uptoBulk]
 |iface t d => simp [Rows.uptoBulk]
 |map entries => simp [Rows.uptoBulk]
 |held h => simp [Rows.uptoBulk]
theorem bulk_len {H : Type} : ∀ (l : List (DataW H)), l.length ≤ Rows.uptoBulkAll l
 | [] => by simp [Rows.uptoBulkAll]
 |x :: r => by
  have h1 := bulk_one x
  have h2 := bulk_len r
  simp only [Rows.uptoBulkAll, List.length_cons]; omega
end Go.Proofs.YtpkeonafcldkhaaGreatDoor
set_option linter.unusedVariables false
set_option linter.unusedSimpArgs false
namespace Go.Proofs.YtpkeonafcldkhaaGreatDoor
open Go.RowKit
structure Trio (w0 w : World) (n1 n2 n3 n4 : Nat) (av bv wv : Value) (L : Nat) (A B W : List Value) : Prop where
 a : w.ownsRow n1 33 3 av L A
 b : w.ownsRow n1 33 3 bv L B
 wt : w.ownsRow n1 33 3 wv L W
 a2 : ∀ x, av.ownBlock = some x → x < n2
 b2 : ∀ x, bv.ownBlock = some x → n2 ≤ x ∧ x < n3
 w2 : ∀ x, wv.ownBlock = some x → n3 ≤ x ∧ x < n4
 o12 : n1 ≤ n2
 o23 : n2 ≤ n3
 o34 : n3 ≤ n4
 o4 : n4 ≤ w.heap.size
 below : Below n1 w0 w
structure Keep (w0 w : World) (n1 n2 n3 n4 : Nat) (av bv wv gv hv : Value) (L : Nat) (A B W X Y : List Value) (gn hn : Nat) : Prop where
 t : Trio w0 w n1 n2 n3 n4 av bv wv L A B W
 g : w.ownsRow n1 33 3 gv gn (A ++ X)
 h : w.ownsRow n1 33 3 hv hn (B ++ Y)
 ga : ∀ x, gv.ownBlock = some x → x < n2 ∨ n4 ≤ x
 hb : ∀ x, hv.ownBlock = some x → (n2 ≤ x ∧ x < n3) ∨ n4 ≤ x
 gh : ∀ x, gv.ownBlock = some x → hv.ownBlock ≠ some x
def SrcAt (w : World) (v : Value) (xs : List Row) : Prop :=
 (v = .slice none 0 0 ∧ xs = []) ∨ ∃ ad c, v = .slice (some ad) xs.length c ∧ ∀ j u, (rowCells xs)[j]? = some u → w.cell? (ad.add j) = some u
theorem SrcAt.below {w w' : World} {v : Value} {xs : List Row} (h : SrcAt w v xs) (hb : Below w.heap.size w w') : SrcAt w' v xs := by
 rcases h with h | ⟨ad, c, h1, h2⟩
 ·exact .inl h
 ·exact .inr ⟨ad, c, h1, fun j u hu => by have h3 := h2 j u hu; rw [hb.cell (cell_in h3)]; exact h3⟩
theorem own_take {w : World} {base g n m c : Nat} {e : TypeId} {size : Nat} {A X : List Value} (h : w.ownsRow base e size (.slice (some ⟨g, 0, none⟩) n c) n (A ++ X)) (hm : m ≤ n) (hA : A.length = m * size) : w.ownsRow base e size (.slice (some ⟨g, 0, none⟩) m c) m A := by
 refine ⟨hA, ?_⟩
 rcases h.2 with ⟨hv, _⟩ | ⟨g', cap, cur, hv, d1, d2, d3, d4, d5, d6⟩
 ·cases hv
 ·simp only [Value.slice.injEq, Option.some.injEq, Addr.mk.injEq, and_true, true_and] at hv
  obtain ⟨rfl, rfl⟩ := hv
  refine .inr ⟨g, c, cur, rfl, d1, d2, Nat.le_trans hm d3, d4, d5, ?_⟩
  have h1 := congrArg (List.take (m * size)) d6
  rw [List.take_take, Nat.min_eq_left (Nat.mul_le_mul_right _ hm), ← hA, List.take_left] at h1
  rw [← hA]
  exact h1
theorem own_cap {w : World} {base g n c : Nat} {e : TypeId} {size : Nat} {xs : List Value} (h : w.ownsRow base e size (.slice (some ⟨g, 0, none⟩) n c) n xs) : n ≤ c ∧ c ≤ maxLen := by
 rcases h.2 with ⟨hv, _⟩ | ⟨g', cap, cur, hv, d1, d2, d3, d4, d5, d6⟩
 ·cases hv
 ·simp only [Value.slice.injEq, Option.some.injEq, Addr.mk.injEq, and_true, true_and] at hv
  obtain ⟨rfl, rfl⟩ := hv
  exact ⟨d3, d4⟩
theorem own_form2 {w : World} {base : Nat} {e : TypeId} {size n : Nat} {v : Value} {xs : List Value} (h : w.ownsRow base e size v n xs) : ∃ ao c', v = .slice ao n c' := by
 rcases h.2 with ⟨rfl, rfl⟩ | ⟨g, cap, cur, rfl, _⟩
 ·exact ⟨_, _, rfl⟩
 ·exact ⟨_, _, rfl⟩
def bigV : List Nat → Nat
 | [] => 0
 |d :: r => d + 4294967296 * bigV r
def BigOk (ds : List Nat) : Prop := ∀ d ∈ ds, d < 4294967296
def Norm (ds : List Nat) : Prop := ∀ h : 0 < ds.length, ds[ds.length - 1] ≠ 0
def u32Cells (ds : List Nat) : List Value := ds.map fun (d : Nat) => .int .u32 (d : Int)
theorem u32Cells_len (ds : List Nat) : (u32Cells ds).length = ds.length := by simp [u32Cells]
def BigR (w : World) (v : Value) (ds : List Nat) : Prop :=
 ∃ ao c, v = .slice ao ds.length c ∧ ∀ j (h : j < ds.length), ∃ g o, ao = some ⟨g, o, none⟩ ∧ g < w.heap.size ∧ w.cell? ⟨g, o + j, none⟩ = some (.int .u32 (ds[j] : Int))
theorem BigR.below {w w' : World} {v : Value} {l : List Nat} (h : BigR w v l) (hb : Below w.heap.size w w') : BigR w' v l := by
 obtain ⟨ao, c, rfl, hc⟩ := h
 refine ⟨ao, c, rfl, fun j hj => ?_⟩
 obtain ⟨g, o, rfl, hg, h1⟩ := hc j hj
 exact ⟨g, o, rfl, Nat.lt_of_lt_of_le hg hb.size, (hb.cell (p := ⟨g, _, none⟩) hg).trans h1⟩
def BigO (w : World) (base : Nat) (v : Value) (ds : List Nat) : Prop := w.ownsRow base 92 1 v ds.length (u32Cells ds)
theorem BigO.own {w : World} {base : Nat} {v : Value} {ds : List Nat} (h : BigO w base v ds) : w.ownsRow base 92 1 v ds.length (u32Cells ds) := h
theorem BigO.r {w : World} {base : Nat} {v : Value} {ds : List Nat} (h : BigO w base v ds) : BigR w v ds := by
 obtain ⟨ao, c, rfl⟩ := own_form2 h
 refine ⟨ao, c, rfl, fun j hj => ?_⟩
 obtain ⟨g, rfl, _, hg⟩ := own_some h (by omega)
 refine ⟨g, 0, rfl, hg, ?_⟩
 rw [Nat.zero_add, World.ownsRow.cellAt h j (by omega)]
 simp [u32Cells, hj]
theorem BigO.below {w w' : World} {base : Nat} {v : Value} {ds : List Nat} (h : BigO w base v ds) (hb : Below w.heap.size w w') : BigO w' base v ds := own_belowE h hb
theorem bigV_app : ∀ (a b : List Nat), bigV (a ++ b) = bigV a + 4294967296 ^ a.length * bigV b
 | [], b => by simp [bigV]
 |d :: r, b => by
  rw [List.cons_append, bigV, bigV, bigV_app r b, List.length_cons, Nat.pow_succ, Nat.mul_add, Nat.mul_comm (4294967296 ^ r.length) 4294967296, Nat.mul_assoc]
  omega
theorem bigV_zeros : ∀ (a : List Nat), (∀ d ∈ a, d = 0) → bigV a = 0
 | [], _ => rfl
 |d :: r, h => by rw [bigV, bigV_zeros r fun x hx => h x (by simp [hx]), h d (by simp)]
theorem bigV_lt : ∀ (a : List Nat), BigOk a → bigV a < 4294967296 ^ a.length
 | [], _ => by simp [bigV]
 |d :: r, h => by
  have ih := bigV_lt r fun x hx => h x (by simp [hx])
  have hd := h d (by simp)
  rw [bigV, List.length_cons, Nat.pow_succ]
  omega
theorem norm_ge {ds : List Nat} (h : Norm ds) (hp : 0 < ds.length) : 4294967296 ^ (ds.length - 1) ≤ bigV ds := by
 have hl := h hp
 have e : ds = ds.take (ds.length - 1) ++ [ds[ds.length - 1]] := by
  rw [← List.take_succ_eq_append_getElem (by omega), show ds.length - 1 + 1 = ds.length by omega, List.take_length]
 rw [e, bigV_app]
 simp only [bigV, List.length_take]
 rw [Nat.min_eq_left (by omega)]
 have h2 : 4294967296 ^ (ds.length - 1) * 1 ≤ 4294967296 ^ (ds.length - 1) * (ds[ds.length - 1] + 4294967296 * 0) := Nat.mul_le_mul_left _ (by omega)
 simp only [List.length_append, List.length_take, List.length_cons, List.length_nil] at h2 ⊢
 rw [show min (ds.length - 1) ds.length + (0 + 1) - 1 = ds.length - 1 by omega]
 omega
theorem norm_len {ds : List Nat} (h : Norm ds) {k : Nat} (hv : bigV ds < 4294967296 ^ k) : ds.length ≤ k := by
 rcases Nat.eq_zero_or_pos ds.length with h0 | h0
 ·omega
 ·have h1 := norm_ge h h0
  rcases Nat.lt_or_ge k ds.length with hk | hk
  ·have : 4294967296 ^ k ≤ 4294967296 ^ (ds.length - 1) := Nat.pow_le_pow_right (by decide) (by omega)
   omega
  ·exact hk
def TrimK (ds : List Nat) (k : Nat) : Prop := k ≤ ds.length ∧ (∀ j (h : j < ds.length), k ≤ j → ds[j] = 0) ∧ ∀ h : k - 1 < ds.length, 0 < k → ds[k - 1] ≠ 0
theorem TrimK.val {ds : List Nat} {k : Nat} (h : TrimK ds k) : bigV (ds.take k) = bigV ds ∧ Norm (ds.take k) ∧ (ds.take k).length = k := by
 obtain ⟨h1, h2, h3⟩ := h
 have hl : (ds.take k).length = k := by simp; omega
 refine ⟨?_, ?_, hl⟩
 ·have e : ds = ds.take k ++ ds.drop k := (List.take_append_drop k ds).symm
  conv => rhs; rw [e]
  rw [bigV_app, bigV_zeros (ds.drop k), Nat.mul_zero, Nat.add_zero]
  intro d hd
  obtain ⟨j, hj, rfl⟩ := List.mem_iff_getElem.1 hd
  rw [List.getElem_drop]
  exact h2 _ _ (by omega)
 ·intro hp
  rw [List.getElem_take]
  simp only [hl]
  exact h3 _ (by omega)
set_option maxRecDepth 100000 in
set_option maxHeartbeats 2000000 in
theorem r02_trimmed (w : World) (ao : Option Addr) (n c : Nat) (ds : List Nat) (h : BigR w (.slice ao n c) ds) (hn : ds.length ≤ 1099511627776) (hc : Norm ds ∨ ds.length ≤ c ∧ c ≤ maxLen) :
  Calls Tryz.prog 83 #[.slice ao n c] w fun e w' => (∃ k, TrimK ds k ∧ e = .returned (.slice ao k c)) ∧ w' = w := by
 obtain ⟨ao', c', he, hcell⟩ := h
 obtain ⟨rfl, rfl, rfl⟩ : ao = ao' ∧ n = ds.length ∧ c = c' := by injection he with h1 h2 h3; exact ⟨h1, h2, h3⟩
 have HC := Lib.hid hcell
 have HCC := Lib.hid hc
 clear hcell he hc
 go_enter Tryz.func83, Tryz.ntmps83
 go_wp2_with fail
 go_loopw [0] (fun t0 wr => ∃ k : Nat, Hid ((k ≤ ds.length ∧ ∀ j (h : j < ds.length), k ≤ j → ds[j] = 0) ∧ wr = w) ∧ t0 = .slice ao k c) (fun t0 _ => match t0 with | .slice _ k _ => k | _ => 0)
 case atStart => exact ⟨ds.length, Lib.hid ⟨⟨Nat.le_refl _, fun j h1 h2 => by omega⟩, rfl⟩, rfl⟩
 case round =>
  obtain ⟨k, hI, rfl⟩ := hrel
  have hw := hI.out.2
  subst hw
  by_cases hk : 0 < k
  ·have p1 : ((0 : Int) < (k : Int)) = True := eq_true (by omega)
   have hkl : k - 1 < ds.length := by have := hI.out.1.1; omega
   obtain ⟨g, o, rfl, hg, hcl⟩ := HC.out (k - 1) hkl
   have e1 : ((k : Int) - 1).toNat = k - 1 := by omega
   have bk : k ≤ 1099511627776 := by omega
   by_cases hz : ds[k - 1] = 0
   ·rw [hz] at hcl
    have hcap : k ≤ c ∧ c ≤ maxLen := by
     rcases HCC.out with hn' | hn'
     ·exfalso
      rcases Nat.lt_or_ge k ds.length with hlt | hge
      ·have := hI.out.1.2 (ds.length - 1) (by omega) (by omega)
       exact hn' (by omega) this
      ·have : k = ds.length := by have := hI.out.1.1; omega
       subst this
       exact hn' hk hz
     ·have := hI.out.1.1
      omega
    unfold maxLen at hcap
    go_wp2_with fail
    exact ⟨⟨k - 1, Lib.hid ⟨⟨by omega, fun j h1 h2 => by
     by_cases hj : j = k - 1
     ·subst hj; exact hz
     ·exact hI.out.1.2 j h1 (by omega)⟩, trivial⟩, rfl⟩, by show k - 1 < k; omega⟩
   ·have p2 : (((ds[k - 1] : Nat) : Int) = 0) = False := eq_false (by omega)
    go_wp2_with fail
    go_ret
    exact ⟨⟨k, ⟨hI.out.1.1, hI.out.1.2, fun _ _ => hz⟩, rfl⟩, rfl⟩
  ·have hk0 : k = 0 := by omega
   subst hk0
   go_wp2_with fail
   go_ret
   exact ⟨⟨0, ⟨Nat.zero_le _, hI.out.1.2, fun _ h => absurd h (by decide)⟩, rfl⟩, rfl⟩
theorem r02_trimmed_own (w : World) (base : Nat) (v : Value) (ds : List Nat) (h : BigO w base v ds) (hn : ds.length ≤ 1099511627776) :
  Calls Tryz.prog 83 #[v] w fun e w' => (∃ v' es, e = .returned v' ∧ BigO w base v' es ∧ bigV es = bigV ds ∧ Norm es ∧ (BigOk ds → BigOk es)) ∧ w' = w := by
 obtain ⟨ao, c, rfl⟩ := own_form2 h
 have hcap : Norm ds ∨ ds.length ≤ c ∧ c ≤ maxLen := by
  rcases Nat.eq_zero_or_pos ds.length with h0 | h0
  ·exact .inl fun h => by omega
  ·obtain ⟨g, rfl, _⟩ := own_some h h0
   exact .inr (own_cap h)
 refine (r02_trimmed w ao ds.length c ds h.r hn hcap).mono ?_
 rintro e w' ⟨⟨k, hk, rfl⟩, rfl⟩
 obtain ⟨v1, v2, v3⟩ := hk.val
 refine ⟨⟨_, ds.take k, rfl, ?_, v1, v2, fun hok d hd => hok d (List.mem_of_mem_take hd)⟩, rfl⟩
 rcases Nat.eq_zero_or_pos ds.length with h0 | h0
 ·have hk0 : k = ds.length := by have := hk.1; omega
  rw [hk0, List.take_length]
  exact h
 ·obtain ⟨g, rfl, _⟩ := own_some h h0
  have e : u32Cells ds = u32Cells (ds.take k) ++ u32Cells (ds.drop k) := by rw [u32Cells, u32Cells, u32Cells, ← List.map_append, List.take_append_drop]
  have h' := h
  unfold BigO at h'
  rw [e] at h'
  have := own_take (m := k) h' (by have := hk.1; omega) (by rw [u32Cells_len, v3]; omega)
  unfold BigO
  rw [v3]
  exact this
theorem r02_trimmed_norm (w : World) (v : Value) (ds : List Nat) (h : BigR w v ds) (hn : ds.length ≤ 1099511627776) (hd : Norm ds) :
  Calls Tryz.prog 83 #[v] w fun e w' => e = .returned v ∧ w' = w := by
 obtain ⟨ao, c, rfl, hc⟩ := h
 refine (r02_trimmed w ao ds.length c ds ⟨ao, c, rfl, hc⟩ hn (.inl hd)).mono ?_
 rintro e w' ⟨⟨k, hk, rfl⟩, rfl⟩
 have : k = ds.length := by
  rcases Nat.lt_or_ge k ds.length with hlt | hge
  ·exact absurd (hk.2.1 (ds.length - 1) (by omega) (by omega)) (hd (by omega))
  ·have := hk.1; omega
 rw [this]
 exact ⟨rfl, rfl⟩
def cmpI (a b : Nat) : Int := if a < b then -1 else if b < a then 1 else 0
theorem big_split (a : List Nat) {i : Nat} (h : i < a.length) : bigV a = bigV (a.take i) + 4294967296 ^ i * (a[i] + 4294967296 * bigV (a.drop (i + 1))) := by
 have e : a = a.take i ++ (a[i] :: a.drop (i + 1)) := by
  rw [← List.drop_eq_getElem_cons h, List.take_append_drop]
 conv => lhs; rw [e]
 rw [bigV_app, List.length_take, Nat.min_eq_left (by omega), bigV]
theorem big_lt {a b : List Nat} (ha : BigOk a) {i : Nat} (h1 : i < a.length) (h2 : i < b.length) (hd : a.drop (i + 1) = b.drop (i + 1)) (hlt : a[i] < b[i]) : bigV a < bigV b := by
 rw [big_split a h1, big_split b h2, hd]
 have ht : bigV (a.take i) < 4294967296 ^ i := by
  have := bigV_lt (a.take i) fun x hx => ha x (List.mem_of_mem_take hx)
  rw [List.length_take, Nat.min_eq_left (by omega)] at this
  exact this
 generalize 4294967296 ^ i = B at *
 generalize bigV (b.drop (i + 1)) = R
 have h3 : B * (a[i] + 4294967296 * R + 1) ≤ B * (b[i] + 4294967296 * R) := Nat.mul_le_mul_left _ (by omega)
 rw [Nat.mul_add B _ 1] at h3
 omega
theorem big_shorter {a b : List Nat} (ha : BigOk a) (hb : Norm b) (hl : a.length < b.length) : bigV a < bigV b := by
 have h1 := bigV_lt a ha
 have h2 := norm_ge hb (by omega)
 have h3 : 4294967296 ^ a.length ≤ 4294967296 ^ (b.length - 1) := Nat.pow_le_pow_right (by decide) (by omega)
 omega
set_option maxRecDepth 100000 in
set_option maxHeartbeats 2000000 in
theorem r02_compare (w : World) (va vb : Value) (xs ys : List Nat) (ha : BigR w va xs) (hb : BigR w vb ys) (hao : BigOk xs) (hbo : BigOk ys) (han : Norm xs) (hbn : Norm ys) (hla : xs.length ≤ 1099511627776) (hlb : ys.length ≤ 1099511627776) :
  Calls Tryz.prog 111 #[va, vb] w fun e w' => e = .returned (.int .i64 (cmpI (bigV xs) (bigV ys))) ∧ ∃ d, w' = w.drewN d := by
 have HTA := Lib.hid (r02_trimmed_norm w va xs ha hla han)
 have HTB := Lib.hid (r02_trimmed_norm w vb ys hb hlb hbn)
 have HO := Lib.hid (And.intro hao (And.intro hbo (And.intro han hbn)))
 obtain ⟨ao, ca, rfl, hca⟩ := ha
 obtain ⟨bo, cb, rfl, hcb⟩ := hb
 have HCA := Lib.hid hca
 have HCB := Lib.hid hcb
 clear hca hcb hao hbo han hbn
 obtain ⟨V, hV⟩ : ∃ V, V = cmpI (bigV xs) (bigV ys) := ⟨_, rfl⟩
 rw [← hV]
 have HV := Lib.hid hV
 clear hV
 go_enter Tryz.func111, Tryz.ntmps111
 go_wp2_with fail
 refine HTA.out.mono ?_
 rintro e w' ⟨rfl, rfl⟩
 go_wp2_with fail
 refine HTB.out.mono ?_
 rintro e w1 ⟨rfl, rfl⟩
 by_cases hlen : xs.length = ys.length
 ·have p1 : ((xs.length : Int) = (ys.length : Int)) = True := eq_true (by omega)
  have p1' : ((xs.length : Int) != (ys.length : Int)) = false := by rw [hlen]; exact bne_self_eq_false _
  have HLEN := Lib.hid hlen
  clear hlen
  go_wp2_with fail
  go_loopw [5] (fun t5 wr => ∃ (k d : Nat), Hid (k ≤ xs.length ∧ xs.drop k = ys.drop k ∧ wr = w1.drewN d) ∧ t5 = .int .i64 ((k : Int) - 1)) (fun t5 _ => (intOf t5 + 1).toNat)
  case atStart => exact ⟨xs.length, 0, Lib.hid ⟨Nat.le_refl _, by rw [List.drop_length, HLEN.out, List.drop_length], rfl⟩, rfl⟩
  case round =>
   obtain ⟨k, d, hI, rfl⟩ := hrel
   have hw := hI.out.2.2
   subst hw
   by_cases hk : 0 < k
   ·obtain ⟨i, rfl⟩ : ∃ i, k = i + 1 := ⟨k - 1, by omega⟩
    have hia : i < xs.length := by have := hI.out.1; omega
    have hib : i < ys.length := by have := HLEN.out; omega
    have ei : ((i + 1 : Nat) : Int) - 1 = (i : Int) := by omega
    rw [ei]
    clear ei
    have p2 : ((0 : Int) ≤ (i : Int)) = True := eq_true (by omega)
    obtain ⟨ga, oa, rfl, hga, hcla⟩ := HCA.out i hia
    obtain ⟨gb, ob, rfl, hgb, hclb⟩ := HCB.out i hib
    have hla2 := List.drop_eq_getElem_cons hia
    obtain ⟨x, hx⟩ : ∃ x, x = xs[i] := ⟨_, rfl⟩
    obtain ⟨y, hy⟩ : ∃ y, y = ys[i] := ⟨_, rfl⟩
    rw [← hx] at hcla
    rw [← hy] at hclb
    have HXY := Lib.hid (And.intro hx hy)
    have bi : i ≤ 1099511627776 := by omega
    clear hla2 hx hy hk
    rcases Nat.lt_trichotomy x y with hxy | hxy | hxy
    ·have p3 : ((x : Int) < (y : Int)) = True := eq_true (by omega)
     have hres : V = -1 := by
      have : bigV xs < bigV ys := big_lt HO.out.1 hia hib hI.out.2.1 (by rw [← HXY.out.1, ← HXY.out.2]; exact hxy)
      rw [HV.out, cmpI, if_pos this]
     go_wp2_with fail
     go_quiet (fail)
     go_wp2_with fail
     go_ret
     exact ⟨(by first | rfl | (rw [hres]; rfl)), _, (by first | rfl | (simp only [World.drewN_drewN]; rfl))⟩
    ·subst hxy
     have p3 : ((x : Int) < (x : Int)) = False := eq_false (by omega)
     go_wp2_with fail
     go_quiet (fail)
     go_wp2_with fail
     go_quiet (fail)
     go_wp2_with fail
     have hdr : xs.drop i = ys.drop i := by
      rw [List.drop_eq_getElem_cons hia, List.drop_eq_getElem_cons hib, hI.out.2.1, ← HXY.out.1, ← HXY.out.2]
     exact ⟨⟨i, _, Lib.hid ⟨by omega, hdr, rfl⟩, rfl⟩, by simp only [intOf]; omega⟩
    ·have p3 : ((x : Int) < (y : Int)) = False := eq_false (by omega)
     have p4 : ((y : Int) < (x : Int)) = True := eq_true (by omega)
     have hres : V = 1 := by
      have : bigV ys < bigV xs := big_lt HO.out.2.1 hib hia hI.out.2.1.symm (by rw [← HXY.out.1, ← HXY.out.2]; exact hxy)
      rw [HV.out, cmpI, if_neg (by omega), if_pos this]
     go_wp2_with fail
     go_quiet (fail)
     go_wp2_with fail
     go_quiet (fail)
     go_wp2_with fail
     go_ret
     exact ⟨(by first | rfl | (rw [hres]; rfl)), _, (by first | rfl | (simp only [World.drewN_drewN]; rfl))⟩
   ·have hk0 : k = 0 := by omega
    subst hk0
    have hres : V = 0 := by
     have h1 := hI.out.2.1
     rw [List.drop_zero, List.drop_zero] at h1
     rw [HV.out, h1, cmpI, if_neg (by omega), if_neg (by omega)]
    go_wp2_with fail
    go_ret
    exact ⟨(by first | rfl | (rw [hres]; rfl)), _, rfl⟩
 ·have p1 : ((xs.length : Int) = (ys.length : Int)) = False := eq_false (by omega)
  have p1' : ((xs.length : Int) != (ys.length : Int)) = true := by simpa using p1
  rcases Nat.lt_or_ge xs.length ys.length with hlt | hge
  ·have p2 : ((xs.length : Int) < (ys.length : Int)) = True := eq_true (by omega)
   have hres : V = -1 := by
    have : bigV xs < bigV ys := big_shorter HO.out.1 HO.out.2.2.2 hlt
    rw [HV.out, cmpI, if_pos this]
   go_wp2_with fail
   go_ret
   exact ⟨(by first | rfl | (rw [hres]; rfl)), 0, rfl⟩
  ·have p2 : ((xs.length : Int) < (ys.length : Int)) = False := eq_false (by omega)
   have hres : V = 1 := by
    have : bigV ys < bigV xs := big_shorter HO.out.2.1 HO.out.2.2.1 (by omega)
    rw [HV.out, cmpI, if_neg (by omega), if_pos this]
   go_wp2_with fail
   go_ret
   exact ⟨(by first | rfl | (rw [hres]; rfl)), 0, rfl⟩
theorem powT_ten {n : Nat} (h : 1 ≤ n) : 2 ^ powT n ≤ 10 ^ n := by
 unfold powT
 by_cases h9 : 9 ≤ n
 ·rw [if_pos h9]
  exact Nat.le_trans (by decide : (2 : Nat) ^ 27 ≤ 10 ^ 9) (Nat.pow_le_pow_right (by omega) h9)
 ·rw [if_neg h9]
  have : ∀ m, m < 9 → 1 ≤ m → 2 ^ ([1, 3, 6, 9, 13, 16, 19, 23, 26].getD m 0) ≤ 10 ^ m := by decide
  exact this n (by omega) h
theorem fb1_dp {S : Dec} (h : S.Ok) (hd : 0 < S.dp) : 0 ≤ (S.rs (powT S.dp.toNat)).dp ∧ (S.rs (powT S.dp.toNat)).dp ≤ S.dp := by
 obtain ⟨k, hk⟩ : ∃ k, k = powT S.dp.toNat := ⟨_, rfl⟩
 have hb := powT_bounds S.dp.toNat
 have ht := powT_ten (n := S.dp.toNat) (by omega)
 rw [← hk] at hb ht ⊢
 obtain ⟨_, hdp, _⟩ := Dec.rs_ok h (k := k) hb.1 (by omega)
 obtain ⟨f1, f2, f3, f4⟩ := rs_first h.dig h.pos (k := k) (by omega)
 have hR : rsR S.D S.nd k ≤ S.dp.toNat + 1 := by
  rcases Nat.lt_or_ge (S.dp.toNat + 1) (rsR S.D S.nd k) with hlt | hge
  ·have := f2 _ hlt
   have h2 := pre_pos h.dig h.pos S.dp.toNat
   omega
  ·exact hge
 omega
theorem fb1_spec : ∀ (f : Nat) (S : Dec) (e : Int), S.Ok → 0 ≤ S.dp → S.dp ≤ 310 → mu1 S ≤ f →
    ∃ K : Nat, (fb1 f S e).2 = e + K ∧ (fb1 f S e).1.Ok ∧ (fb1 f S e).1.dp = 0 ∧ ∀ T, 10 ^ 310 ∣ T → (T ≤ vF (fb1 f S e).1 ↔ T * 2 ^ K ≤ vF S)
  | 0, S, e, ok, h0, h1, hm => by
    have : S.dp = 0 := by unfold mu1 at hm; omega
    exact ⟨0, by simp [fb1], ok, this, fun T _ => by simp [fb1]⟩
  | f + 1, S, e, ok, h0, h1, hm => by
    by_cases hd : 0 < S.dp
    · have hs := mu1_step ok hd
      obtain ⟨d1, d2⟩ := fb1_dp ok hd
      have hb := powT_bounds S.dp.toNat
      rw [fb1_step hd]
      obtain ⟨k, hk⟩ : ∃ k, k = powT S.dp.toNat := ⟨_, rfl⟩
      rw [← hk] at hs d1 d2 hb ⊢
      have ok1 := (Dec.rs_ok ok (k := k) hb.1 (by omega)).1
      obtain ⟨K, a, b, c, d⟩ := fb1_spec f (S.rs k) (e + k) ok1 d1 (by omega) (by omega)
      refine ⟨k + K, by rw [a]; omega, b, c, fun T hT => ?_⟩
      rw [d T hT, rs_vF ok hb.1 (by omega) d1, Nat.mul_assoc, ← Nat.pow_add, Nat.add_comm K k]
      exact Nat.dvd_trans (Nat.pow_dvd_pow 10 (by omega)) (Nat.dvd_trans hT (Nat.dvd_mul_right _ _))
    · rw [fb1_end hd]
      exact ⟨0, by simp, ok, by show S.dp = 0; omega, fun T _ => by simp⟩
theorem lead_le {S : Dec} (h : S.Ok) : (S.D 0 - 48) * 10 ^ (S.nd - 1) ≤ pre S.D S.nd S.nd ∧ pre S.D S.nd S.nd < (S.D 0 - 48 + 1) * 10 ^ (S.nd - 1) := by
 have hlead : pre S.D S.nd S.nd / 10 ^ (S.nd - 1) = S.D 0 - 48 := by
  have := pre_div h.dig 1 (S.nd - 1)
  rw [show 1 + (S.nd - 1) = S.nd by have := h.pos; omega] at this
  rw [this]; simp [pre, dgt, h.pos]
 have hT : 0 < 10 ^ (S.nd - 1) := Nat.pow_pos (by omega)
 constructor
 ·rw [← hlead]; exact Nat.div_mul_le_self _ _
 ·rw [← hlead]; exact (Nat.div_lt_iff_lt_mul hT).1 (Nat.lt_succ_self _)
theorem ls_one {S : Dec} (h : S.Ok) (hd : S.dp = 0) (h5 : S.D 0 < 53) : (S.ls 1).dp = 0 ∧ vF (S.ls 1) = vF S * 2 := by
 have hb := ls_bounds h.dig h.pos (k := 1) (by omega) (by omega)
 obtain ⟨ok, hdp, _⟩ := Dec.ls_ok h (k := 1) (by omega) (by omega)
 have hl := lead_le h
 have hp := h.pos
 have hle := h.le
 have hM : lsM S.D S.nd 1 = pre S.D S.nd S.nd * 2 := rfl
 have hnT : 10 ^ S.nd = 10 * 10 ^ (S.nd - 1) := by rw [← Nat.pow_succ']; congr 1; omega
 have hlt : pre S.D S.nd S.nd * 2 < 10 ^ S.nd := by
  have : (S.D 0 - 48 + 1) * 10 ^ (S.nd - 1) ≤ 5 * 10 ^ (S.nd - 1) := Nat.mul_le_mul_right _ (by omega)
  omega
 have hL : lsL S.D S.nd 1 = S.nd := by
  rcases Nat.lt_or_ge S.nd (lsL S.D S.nd 1) with hh | hh
  ·have h10 : 10 ^ S.nd ≤ 10 ^ (lsL S.D S.nd 1 - 1) := Nat.pow_le_pow_right (by omega) (by omega)
   omega
  ·omega
 have hd1 : (S.ls 1).dp = 0 := by rw [hdp, hL]; omega
 refine ⟨hd1, ?_⟩
 have ht := pre_trim_end (lsDF S.D S.nd 1) (min (lsL S.D S.nd 1) 800)
 have htl := trimN_le (lsDF S.D S.nd 1) (min (lsL S.D S.nd 1) 800)
 have hdn := ls_dn (D := S.D) hb.2.1 (lsL S.D S.nd 1) (Nat.le_refl _) (by omega)
 have e : dn (lsDF S.D S.nd 1) (lsL S.D S.nd 1) = lsM S.D S.nd 1 := by
  rw [lsDF, hdn, Nat.sub_self, Nat.pow_zero, Nat.div_one]
 rw [hL, Nat.min_eq_left hle] at ht htl
 rw [hL] at e
 rw [e, hM] at ht
 have hnd : (S.ls 1).nd = trimN (lsDF S.D S.nd 1) S.nd := by show lsNd S.D S.nd 1 = _; rw [lsNd, hL, Nat.min_eq_left hle]
 have hD : (S.ls 1).D = lsDF S.D S.nd 1 := rfl
 rw [vF, vF, hd1, hd, hnd, hD]
 generalize trimN (lsDF S.D S.nd 1) S.nd = t at ht htl ⊢
 rw [show 800 + (0 : Int).toNat - t = (S.nd - t) + (800 + (0 : Int).toNat - S.nd) by simp; omega, Nat.pow_add, ← Nat.mul_assoc, ht]
 rw [Nat.mul_right_comm]
theorem fb2_spec0 : ∀ (f : Nat) (S : Dec) (e : Int), S.Ok → S.dp = 0 → mu2 S ≤ f →
    ∃ J : Nat, (fb2 f S e).2 = e - J ∧ (fb2 f S e).1.Ok ∧ (fb2 f S e).1.dp = 0 ∧ 53 ≤ (fb2 f S e).1.D 0 ∧ vF (fb2 f S e).1 = vF S * 2 ^ J
  | 0, S, e, ok, h0, hm => by
    have : 53 ≤ S.D 0 := by unfold mu2 at hm; rw [if_neg (by omega)] at hm; omega
    exact ⟨0, by simp [fb2], ok, h0, this, by simp [fb2]⟩
  | f + 1, S, e, ok, h0, hm => by
    by_cases hl : less2 S
    · have h5 : S.D 0 < 53 := by rcases hl with hl | ⟨_, hl⟩; omega; exact hl
      have hs := mu2_step ok hl
      have hk : powT (-S.dp).toNat = 1 := by rw [h0]; rfl
      rw [hk] at hs
      rw [fb2_step hl, hk]
      obtain ⟨d1, d2⟩ := ls_one ok h0 h5
      have ok1 := (Dec.ls_ok ok (k := 1) (by omega) (by omega)).1
      obtain ⟨J, a, b, c, d, g⟩ := fb2_spec0 f (S.ls 1) (e - ((1 : Nat) : Int)) ok1 d1 (by omega)
      refine ⟨J + 1, by rw [a]; omega, b, c, d, ?_⟩
      rw [g, d2, Nat.pow_succ, Nat.mul_assoc, Nat.mul_comm 2]
    · rw [fb2_end hl]
      have h5 : 53 ≤ S.D 0 := by
        rcases Nat.lt_or_ge (S.D 0) 53 with h | h
        · exact absurd (.inr ⟨h0, h⟩) hl
        · exact h
      exact ⟨0, by simp, ok, h0, h5, by simp⟩
theorem riV_top {S : Dec} (h : S.Ok) (hd : S.dp = 0) (h5 : 53 ≤ S.D 0) : riV (S.ls 53) = 9007199254740992 ↔ (2 ^ 54 - 1) * 5 ^ 54 * 10 ^ 746 ≤ vF S := by
 have hb := ls_bounds h.dig h.pos (k := 53) (by omega) (by omega)
 obtain ⟨ok, hdp, _⟩ := Dec.ls_ok h (k := 53) (by omega) (by omega)
 have hp := h.pos
 have hle := h.le
 have hlt := pre_lt h.dig S.nd
 obtain ⟨N, hN⟩ : ∃ N, N = pre S.D S.nd S.nd := ⟨_, rfl⟩
 obtain ⟨L, hL⟩ : ∃ L, L = lsL S.D S.nd 53 := ⟨_, rfl⟩
 have hM : lsM S.D S.nd 53 = N * 2 ^ 53 := by rw [lsM, hN]
 have hpre := ls_pre h (k := 53) (by omega) (by omega)
 rw [← hL] at hdp hb hpre
 rw [hM] at hb hpre
 rw [← hN] at hlt
 obtain ⟨p, hpL⟩ : ∃ p, L = S.nd + p := ⟨L - S.nd, by omega⟩
 have hdp' : (S.ls 53).dp = (p : Int) := by rw [hdp, hd, hpL]; omega
 have hp16 : p ≤ 16 := by
  rcases Nat.lt_or_ge 16 p with hh | hh
  ·exfalso
   have h1 : 10 ^ (S.nd + 16) ≤ 10 ^ (L - 1) := Nat.pow_le_pow_right (by omega) (by omega)
   have h2 : N * 2 ^ 53 < 10 ^ S.nd * 10 ^ 16 := by
    have : N * 2 ^ 53 < 10 ^ S.nd * 2 ^ 53 := Nat.mul_lt_mul_of_pos_right hlt (by decide)
    exact Nat.lt_of_lt_of_le this (Nat.mul_le_mul_left _ (by decide))
   rw [Nat.pow_add] at h1
   omega
  ·exact hh
 have hA : 0 < 10 ^ S.nd := Nat.pow_pos (by omega)
 have e0 : pre (S.ls 53).D (S.ls 53).nd p = N * 2 ^ 53 / 10 ^ S.nd := by
  rw [hpre p (by omega) (by omega), show L - p = S.nd by omega]
 have e1 : pre (S.ls 53).D (S.ls 53).nd (p + 1) = N * 2 ^ 53 * 10 / 10 ^ S.nd := by
  rw [hpre (p + 1) (by omega) (by omega), show L - (p + 1) = S.nd - 1 by omega]
  have : 10 ^ S.nd = 10 ^ (S.nd - 1) * 10 := by rw [← Nat.pow_succ]; congr 1; omega
  rw [this, Nat.mul_div_mul_right _ _ (by omega)]
 have hq : N * 2 ^ 53 / 10 ^ S.nd ≤ 9007199254740991 := by
  have : N * 2 ^ 53 / 10 ^ S.nd < 2 ^ 53 := by
   rw [Nat.div_lt_iff_lt_mul hA, Nat.mul_comm (2 ^ 53)]
   exact Nat.mul_lt_mul_of_pos_right hlt (by decide)
  have e : (2 : Nat) ^ 53 = 9007199254740992 := by decide
  omega
 obtain ⟨q, hqq⟩ : ∃ q, q = N * 2 ^ 53 / 10 ^ S.nd := ⟨_, rfl⟩
 obtain ⟨r, hr⟩ : ∃ r, r = dgt (S.ls 53).D (S.ls 53).nd p := ⟨_, rfl⟩
 have er : pre (S.ls 53).D (S.ls 53).nd (p + 1) = q * 10 + r := by rw [pre, e0, hqq, hr]
 have hr9 : r ≤ 9 := by rw [hr]; exact dgt_le ok.dig p
 rw [← hqq] at e0 hq
 have hri : riPre (S.ls 53) p = q := by rw [riPre, e0, Nat.mod_eq_of_lt (by omega)]
 have hsru : q = 9007199254740991 → (sru (S.ls 53) (S.ls 53).dp = true ↔ 5 ≤ r) := by
  intro hqe
  have hp1 : 1 ≤ p := by
   rcases Nat.eq_zero_or_pos p with h0 | h0
   ·rw [h0] at e0; simp only [pre] at e0; omega
   ·exact h0
  rw [hdp']
  unfold sru
  by_cases hn : (S.ls 53).nd ≤ p
  ·rw [if_pos (.inr (by omega))]
   have : r = 0 := by rw [hr, dgt, if_neg (by omega)]
   simp [this]
  ·rw [if_neg (by omega), Int.toNat_natCast]
   have hrD : r = (S.ls 53).D p - 48 := by rw [hr, dgt, if_pos (by omega)]
   have hDr := ok.dig.1 p (by omega)
   unfold sruAt
   split
   ·rename_i hc
    have hodd : oddAt (S.ls 53).D p = true := by
     have hpp : pre (S.ls 53).D (S.ls 53).nd p = pre (S.ls 53).D (S.ls 53).nd (p - 1) * 10 + ((S.ls 53).D (p - 1) - 48) := by
      have e : p = (p - 1) + 1 := by omega
      conv => lhs; rw [e]
      rw [pre, dgt, if_pos (by omega)]
     have hD1 := ok.dig.1 (p - 1) (by omega)
     unfold oddAt
     rw [decide_eq_true (by omega : 0 < p), Bool.true_and, decide_eq_true_iff]
     omega
    rw [hodd, Bool.or_true]
    simp only [true_iff]
    omega
   ·rw [decide_eq_true_iff]
    omega
 have hval : riV (S.ls 53) = 9007199254740992 ↔ q = 9007199254740991 ∧ 5 ≤ r := by
  have hdq : (S.ls 53).dp.toNat = p := by rw [hdp']; rfl
  unfold riV
  rw [if_neg (by omega), hdq, hri]
  by_cases hq1 : q = 9007199254740991
  ·have hs := hsru hq1
   by_cases hs2 : sru (S.ls 53) (S.ls 53).dp = true
   ·rw [if_pos hs2]
    have := hs.1 hs2
    omega
   ·rw [if_neg hs2]
    have : ¬ 5 ≤ r := fun h => hs2 (hs.2 h)
    omega
  ·constructor
   ·intro hh
    split at hh <;> omega
   ·rintro ⟨h1, _⟩; exact absurd h1 hq1
 have hv2 : (q = 9007199254740991 ∧ 5 ≤ r) ↔ 90071992547409915 ≤ q * 10 + r := by omega
 rw [hval, hv2, ← er, e1, Nat.le_div_iff_mul_le hA]
 have hF : vF S * 2 ^ 54 = N * 2 ^ 54 * 10 ^ (800 - S.nd) := by
  rw [vF, ← hN, hd, show 800 + (0 : Int).toNat - S.nd = 800 - S.nd by simp, Nat.mul_right_comm]
 have hT : (2 ^ 54 - 1) * 5 ^ 54 * 10 ^ 746 * 2 ^ 54 = (2 ^ 54 - 1) * 10 ^ S.nd * 10 ^ (800 - S.nd) := by
  have e8 : (10 : Nat) ^ S.nd * 10 ^ (800 - S.nd) = 10 ^ 800 := by rw [← Nat.pow_add]; congr 1; omega
  rw [Nat.mul_assoc (2 ^ 54 - 1) (10 ^ S.nd), e8]
  have e9 : (10 : Nat) ^ 800 = 5 ^ 54 * 10 ^ 746 * 2 ^ 54 := pw_e9 800 746 rfl
  rw [e9]
  simp only [Nat.mul_assoc]
 have hP : 0 < 10 ^ (800 - S.nd) := Nat.pow_pos (by omega)
 have step : (2 ^ 54 - 1) * 5 ^ 54 * 10 ^ 746 ≤ vF S ↔ (2 ^ 54 - 1) * 10 ^ S.nd ≤ N * 2 ^ 54 := by
  rw [← Nat.mul_le_mul_right_iff (show 0 < 2 ^ 54 by decide), hT, hF, Nat.mul_le_mul_right_iff hP]
 rw [step]
 have c1 : (2 : Nat) ^ 54 - 1 = 18014398509481983 := by decide
 have c2 : (2 : Nat) ^ 54 = 18014398509481984 := by decide
 have c3 : (2 : Nat) ^ 53 = 9007199254740992 := by decide
 rw [c1, c2, c3]
 generalize 10 ^ S.nd = A
 omega
end Go.Proofs.YtpkeonafcldkhaaGreatDoor
