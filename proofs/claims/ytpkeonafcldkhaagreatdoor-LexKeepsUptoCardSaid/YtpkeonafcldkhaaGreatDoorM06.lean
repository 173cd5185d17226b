import Derived.Test.YtpkeonafcldkhaaGreatDoorM01
import Derived.Test.YtpkeonafcldkhaaGreatDoorM04
import Derived.Test.YtpkeonafcldkhaaGreatDoorM05
import Derived.Deep.RegionLaw
import Derived.BigRegion
import Derived.Deep.RegionHeld3
import Derived.Shelf.Strings.Builder1
import Derived.Shelf.Small.Strs
import Derived.Shelf.Strings.Search1
import Derived.Shelf.Strings.Search2
import Derived.Shelf.Strings.Search3
import Derived.Test.YtpkeonafcldkhaaGreatDoorProg
import Derived.BigQuiet
import Derived.Lib.IndexAny
/- lex: the scanner in memory; put. -/
set_option linter.unusedVariables false
set_option linter.unusedSimpArgs false
namespace Go.Proofs.YtpkeonafcldkhaaGreatDoor
open Go.RowKit

/-- A token's cells. -/
def Tok.cells (t : Tok) : List Value := [.int .i64 (t.kind : Int), .string ⟨t.text.toArray⟩, .int .i64 (t.pos : Int)]
def toksCells (ts : List Tok) : List Value := ts.flatMap Tok.cells
theorem toksCells_push (ts : List Tok) (t : Tok) : toksCells (ts ++ [t]) = toksCells ts ++ t.cells := by simp [toksCells]
theorem toksCells_len (ts : List Tok) : (toksCells ts).length = ts.length * 3 := by
  induction ts with
  | nil => rfl
  | cons t r ih => simp only [toksCells, List.flatMap_cons, List.length_append] at *; rw [ih]; simp [Tok.cells]; omega
/-- append of one element to a row of the call's own, as one step of a region that draws. -/
theorem step_push {P : Program} {ops : Array Oper} {o : Oper} {a : Act} {w0 : World} {K : Act → World → Prop} {Q : Exit → Act → World → Prop} {E : Prop}
    (hg : o.guard = none) (s x : Operand) (t : TypeId) (hop : o.op = Op.call { callee := Callee.builtin Builtin.append, args := #[s, x], argTypes := #[t, t] })
    (base : Nat) (e : TypeId) (z : Value) (size bytes : Nat) (hinfo : (P.info? e).map (fun i => (i.zero, i.size, i.bytes)) = some (some z, size, bytes)) (h1 : P.underlying t = some (.slice e)) (hzs : z.cells.size = size) (hsz : 0 < size)
    (v : Value) (n : Nat) (xs : List Value) (hs : a.eval s = v) (hown : w0.ownsRow base e size v n xs) (us : List Value) (hus : us.length = size)
    (hx : a.eval x = .slice (some ⟨w0.heap.size, 0, none⟩) 1 1) (h1c : ∀ u ∈ us, u.oneCell' = true) (hmax : n + 1 ≤ maxLen) (hb : (n + 1) * bytes ≤ 140737488355328) (hbase : base ≤ w0.heap.size)
    (hK : ∀ v' w', w'.ownsRow base e size v' (n + 1) (xs ++ us) → w0.grownBy w' v.ownBlock → K (a.put o.dst v') w') :
    if Region.wanted o (yielded ops a.tmps) = true then Oper.wp P o a (w0.alloc (.cells us.toArray e)) K Q else E := by
  have hw : Region.wanted o (yielded ops a.tmps) = true := by simp [Region.wanted, hg]
  rw [if_pos hw]
  obtain ⟨i, hi, hz, hsi, hby⟩ := info_parts hinfo
  obtain ⟨v', w', hrun, r1, r2, _⟩ := run_append_own (P := P) (w0.alloc (.cells us.toArray e)) base t o.type e i z size bytes h1 hi hz hsi hby hzs hsz v n xs (hown.alloc _) ⟨w0.heap.size, 0, none⟩ 1 1 us (by omega)
    (by intro j u hu
        have hj : j < us.length := (List.getElem?_eq_some_iff.1 hu).1
        rw [Addr.add_lit, Nat.zero_add, World.cell?_alloc_at _ _ _ _ rfl]
        simpa using hu) h1c hmax hb (by simp; omega)
  unfold Oper.wp
  simp [execOp, hop, resolve, invoke, builtin, hs, hx, hrun, Result.andThen]
  exact hK v' w' r1 (grow_trans (World.grownBy_alloc w0 _ _) r2)
/-- The scanner at p. -/
def ZAt (w : World) (p : Nat) (s : ByteArray) (at' : Nat) (br sq : Bool) (v : Value) : Prop := Blk w p 51 #[.string s, .int .i64 (at' : Int), .bool br, .bool sq, v]
theorem info_tok : (Tryz.prog.info? 33).map (fun i => (i.zero, i.size, i.bytes)) = some (some (.agg #[.int .i64 0, .string ⟨#[]⟩, .int .i64 0]), 3, 32) := by
  kernel_rfl
theorem own_grown {w w' : World} {base : Nat} {e : TypeId} {size n : Nat} {v : Value} {xs : List Value} {row : Option Nat} (h : w.ownsRow base e size v n xs) (hb : w.grownBy w' row) (hg : ∀ g, v.ownBlock = some g → some g ≠ row) : w'.ownsRow base e size v n xs := by
  refine ⟨h.1, ?_⟩
  rcases h.2 with hn | ⟨g, cap, cur, rfl, h1, h2, h3, h4, h5, h6⟩
  · exact .inl hn
  · have hlt : g < w.heap.size := by
      rcases Nat.lt_or_ge g w.heap.size with hlt | hge
      · exact hlt
      · rw [Array.getElem?_eq_none hge] at h2; cases h2
    exact .inr ⟨g, cap, cur, rfl, h1, (hb.block g hlt (hg g rfl)).trans h2, h3, h4, h5, h6⟩
theorem own_setBlk {w : World} {base : Nat} {e t : TypeId} {size n : Nat} {v : Value} {xs : List Value} {p i : Nat} {cs : Array Value} (h : w.ownsRow base e size v n xs) (hp : Blk w p t cs) (hne : e ≠ t) (u : Value) : (w.setCell ⟨p, i, none⟩ u).ownsRow base e size v n xs := by
  refine ⟨h.1, ?_⟩
  rcases h.2 with hn | ⟨g, cap, cur, rfl, h1, h2, h3, h4, h5, h6⟩
  · exact .inl hn
  · refine .inr ⟨g, cap, cur, rfl, h1, ?_, h3, h4, h5, h6⟩
    have hne2 : g ≠ p := Blk.ne_ (t := e) h2 hp hne
    exact (Below.heap_setCell w ⟨p, i, none⟩ u g hne2).trans h2
theorem own_form {w : World} {base : Nat} {e : TypeId} {size n : Nat} {v : Value} {xs : List Value} (h : w.ownsRow base e size v n xs) : ∃ ao n' c', v = .slice ao n' c' := by
  rcases h.2 with ⟨rfl, _⟩ | ⟨g, cap, cur, rfl, _⟩
  · exact ⟨_, _, _, rfl⟩
  · exact ⟨_, _, _, rfl⟩
theorem put_kept {w w' : World} {base p n : Nat} {s : ByteArray} {at' : Nat} {br sq : Bool} {v : Value} {xs : List Value} (hz : ZAt w p s at' br sq v) (ho : w.ownsRow base 33 3 v n xs) (hg : w.drew.grownBy w' v.ownBlock) : ZAt w' p s at' br sq v :=
  Blk.grown (w := w.drew) hz hg (own_blk_ne (e := 33) ho hz (by decide)).symm
/-- What put leaves: the scanner further on, one token more. -/
def PutPost (base p : Nat) (s : ByteArray) (at' : Nat) (br sq : Bool) (ts : List Tok) (w : World) (e : Ending) (w' : World) : Prop :=
  e = .returned (.int .i64 0) ∧ ∃ v, ZAt w' p s at' br sq v ∧ w'.ownsRow base 33 3 v ts.length (toksCells ts) ∧ Below base w w'
set_option maxRecDepth 100000 in
set_option maxHeartbeats 1000000 in
theorem lex_put (w : World) (base p : Nat) (s : ByteArray) (at' k n : Nat) (x y : Int) (hx : x = (k : Int)) (hy : y = (n : Int)) (br sq : Bool) (v : Value) (ts : List Tok) (hs : s.size ≤ 281474976710656) (hn : at' + n ≤ s.size) (hk : k ≤ 6)
    (hz : ZAt w p s at' br sq v) (hown : w.ownsRow base 33 3 v ts.length (toksCells ts)) (hlen : ts.length ≤ 1099511627776) (hbp : base ≤ p) :
    Calls Tryz.prog 50 #[.pointer (some ⟨p, 0, none⟩), .int .i64 x, .int .i64 y] w (PutPost base p s (at' + n) br sq (ts ++ [⟨k, (s.data.toList.drop at').take n, at'⟩]) w) := by
  subst hx hy
  have hw : IntKind.i64.wrap ((at' : Int) + (n : Int)) = ((at' + n : Nat) : Int) := by rw [IntKind.wrap_i64]; omega
  have q1 : (0 ≤ (at' : Int) + (n : Int)) = True := by simp; omega
  have q2 : ((at' : Int) + (n : Int) ≤ (s.size : Int)) = True := by simp; omega
  have q3 : ((at' : Int) ≤ (at' : Int) + (n : Int)) = True := by simp; omega
  have q4 : ((at' : Int) + (n : Int)).toNat = at' + n := by omega
  have c0 : w.cell? ⟨p, 0, none⟩ = some (.string s) := by rw [hz.cell]; rfl
  have c1 : w.cell? ⟨p, 1, none⟩ = some (.int .i64 (at' : Int)) := by rw [hz.cell]; rfl
  have c4 : w.cell? ⟨p, 4, none⟩ = some v := by rw [hz.cell]; rfl
  have e4 : ∀ o, (w.alloc o).cell? ⟨p, 4, none⟩ = some v := fun o => ((Blk.alloc hz o).cell 4).trans rfl
  have e4' : ∀ o, (w.drew.alloc o).cell? ⟨p, 4, none⟩ = some v := fun o => ((Blk.alloc (w := w.drew) hz o).cell 4).trans rfl
  have HZ := Lib.hid hz
  have HO := Lib.hid hown
  clear hz hown
  go_enter Tryz.func50, Tryz.ntmps50
  go_wp2_with fail
  refine wp_region_noPanic ?_
  refine wp_region_held_drew (S := fun w' => w'.cell? ⟨p, 0, none⟩ = some (.string s) ∧ w'.cell? ⟨p, 1, none⟩ = some (.int .i64 (at' : Int))) (by kernel_rfl) ?_ (fun hHeld => ?_)
  · (try dsimp only)
    first | done | go_keep | (refine ⟨?_, ?_⟩ <;> (rw [World.cell?_setCell_other _ _ _ _ (by simp)]; assumption))
  refine wpAnyH_take (i := 0) (v := ?_) rfl (by kernel_rfl) (by kernel_rfl) (by kernel_rfl) (fun _ _ _ h => h) (Or.inl ⟨by rfl, ?_⟩) (by assumption) ?_
  rotate_left
  · intro w hSw
    try dsimp only at hSw
    go_simp
    first | done | (with_reducible rfl)
  try simp only [Act.put, List.setIfInBounds_toArray, List.set_cons_zero, List.set_cons_succ]
  refine wpAnyH_take (i := 1) (v := ?_) rfl (by kernel_rfl) (by kernel_rfl) (by kernel_rfl) (fun _ _ _ h => h) (Or.inl ⟨by rfl, ?_⟩) (by assumption) ?_
  rotate_left
  · intro w hSw
    try dsimp only at hSw
    go_simp
    first | done | (with_reducible rfl)
  try simp only [Act.put, List.setIfInBounds_toArray, List.set_cons_zero, List.set_cons_succ]
  refine wpAnyH_take (i := 2) (v := ?_) rfl (by kernel_rfl) (by kernel_rfl) (by kernel_rfl) (fun _ _ _ h => h) (Or.inl ⟨by rfl, ?_⟩) (by assumption) ?_
  rotate_left
  · intro w hSw
    try dsimp only at hSw
    go_simp
    first | done | (with_reducible rfl)
  try simp only [Act.put, List.setIfInBounds_toArray, List.set_cons_zero, List.set_cons_succ]
  refine wpAnyH_take (i := 3) (v := ?_) rfl (by kernel_rfl) (by kernel_rfl) (by kernel_rfl) (fun _ _ _ h => h) (Or.inl ⟨by rfl, ?_⟩) (by assumption) ?_
  rotate_left
  · intro w hSw
    try dsimp only at hSw
    go_simp
    first | done | (with_reducible rfl)
  try simp only [Act.put, List.setIfInBounds_toArray, List.set_cons_zero, List.set_cons_succ]
  refine wpAnyH_take (i := 5) (v := ?_) rfl (by kernel_rfl) (by kernel_rfl) (by kernel_rfl) (fun _ _ _ h => h) (Or.inl ⟨by rfl, ?_⟩) (by assumption) ?_
  rotate_left
  · intro w hSw
    try dsimp only at hSw
    go_simp
    first | done | (with_reducible rfl)
  try simp only [Act.put, List.setIfInBounds_toArray, List.set_cons_zero, List.set_cons_succ]
  refine wpAnyH_take (i := 6) (v := ?_) rfl (by kernel_rfl) (by kernel_rfl) (by kernel_rfl) (fun _ _ _ h => h) (Or.inl ⟨by rfl, ?_⟩) (by assumption) ?_
  rotate_left
  · intro w hSw
    try dsimp only at hSw
    go_simp
    first | done | (with_reducible rfl)
  try simp only [Act.put, List.setIfInBounds_toArray, List.set_cons_zero, List.set_cons_succ]
  refine wpAnyH_take (i := 7) (v := ?_) rfl (by kernel_rfl) (by kernel_rfl) (by kernel_rfl) (fun _ _ _ h => h) (Or.inl ⟨by rfl, ?_⟩) (by assumption) ?_
  rotate_left
  · intro w hSw
    try dsimp only at hSw
    go_simp
    first | done | (with_reducible rfl)
  try simp only [Act.put, List.setIfInBounds_toArray, List.set_cons_zero, List.set_cons_succ]
  refine wpAnyH_take (i := 8) (v := ?_) rfl (by kernel_rfl) (by kernel_rfl) (by kernel_rfl) (fun _ _ _ h => h) (Or.inl ⟨by rfl, ?_⟩) (by assumption) ?_
  rotate_left
  · intro w hSw
    try dsimp only at hSw
    go_simp
    first | done | (with_reducible rfl)
  try simp only [Act.put, List.setIfInBounds_toArray, List.set_cons_zero, List.set_cons_succ]
  refine wpAnyH_take (i := 9) (v := ?_) rfl (by kernel_rfl) (by kernel_rfl) (by kernel_rfl) (fun _ _ _ h => h) (Or.inl ⟨by rfl, ?_⟩) (by assumption) ?_
  rotate_left
  · intro w hSw
    try dsimp only at hSw
    go_simp
    first | done | (with_reducible rfl)
  try simp only [Act.put, List.setIfInBounds_toArray, List.set_cons_zero, List.set_cons_succ]
  refine wpAnyH_take (i := 10) (v := ?_) rfl (by kernel_rfl) (by kernel_rfl) (by kernel_rfl) (fun _ _ _ h => h) (Or.inl ⟨by rfl, ?_⟩) (by assumption) ?_
  rotate_left
  · intro w hSw
    try dsimp only at hSw
    go_simp
    first | done | (with_reducible rfl)
  try simp only [Act.put, List.setIfInBounds_toArray, List.set_cons_zero, List.set_cons_succ]
  refine wpAnyH_take (i := 11) (v := ?_) rfl (by kernel_rfl) (by kernel_rfl) (by kernel_rfl) (fun _ _ _ h => h) (Or.inl ⟨by rfl, ?_⟩) (by assumption) ?_
  rotate_left
  · intro w hSw
    try dsimp only at hSw
    go_simp
    first | done | (with_reducible rfl)
  try simp only [Act.put, List.setIfInBounds_toArray, List.set_cons_zero, List.set_cons_succ]
  refine wpAnyH_take (i := 12) (v := ?_) rfl (by kernel_rfl) (by kernel_rfl) (by kernel_rfl) (fun _ _ _ h => h) (Or.inl ⟨by rfl, ?_⟩) (by assumption) ?_
  rotate_left
  · intro w hSw
    try dsimp only at hSw
    go_simp
    first | done | (with_reducible rfl)
  try simp only [Act.put, List.setIfInBounds_toArray, List.set_cons_zero, List.set_cons_succ]
  refine wpAnyH_take (i := 13) (v := ?_) rfl (by kernel_rfl) (by kernel_rfl) (by kernel_rfl) (fun _ _ _ h => h) (Or.inl ⟨by rfl, ?_⟩) (by assumption) ?_
  rotate_left
  · intro w hSw
    try dsimp only at hSw
    go_simp
    first | done | (with_reducible rfl)
  try simp only [Act.put, List.setIfInBounds_toArray, List.set_cons_zero, List.set_cons_succ]
  refine wpAnyH_take (i := 14) (v := ?_) rfl (by kernel_rfl) (by kernel_rfl) (by kernel_rfl) (fun _ _ _ h => h) (Or.inl ⟨by rfl, ?_⟩) (by assumption) ?_
  rotate_left
  · intro w hSw
    try dsimp only at hSw
    go_simp
    first | done | (with_reducible rfl)
  try simp only [Act.put, List.setIfInBounds_toArray, List.set_cons_zero, List.set_cons_succ]
  refine wpAnyH_take (i := 15) (v := ?_) rfl (by kernel_rfl) (by kernel_rfl) (by kernel_rfl) (fun _ _ _ h => h) (Or.inl ⟨by rfl, ?_⟩) (by assumption) ?_
  rotate_left
  · intro w hSw
    try dsimp only at hSw
    go_simp
    first | done | (with_reducible rfl)
  try simp only [Act.put, List.setIfInBounds_toArray, List.set_cons_zero, List.set_cons_succ]
  refine wpAnyH_take (i := 16) (v := ?_) rfl (by kernel_rfl) (by kernel_rfl) (by kernel_rfl) (fun _ _ _ h => h) (Or.inl ⟨by rfl, ?_⟩) (by assumption) ?_
  rotate_left
  · intro w hSw
    try dsimp only at hSw
    go_simp
    first | done | (with_reducible rfl)
  try simp only [Act.put, List.setIfInBounds_toArray, List.set_cons_zero, List.set_cons_succ]
  refine wpAnyH_take (i := 17) (v := ?_) rfl (by kernel_rfl) (by kernel_rfl) (by kernel_rfl) (fun _ _ _ h => h) (Or.inl ⟨by rfl, ?_⟩) (by assumption) ?_
  rotate_left
  · intro w hSw
    try dsimp only at hSw
    go_simp
    first | done | (with_reducible rfl)
  try simp only [Act.put, List.setIfInBounds_toArray, List.set_cons_zero, List.set_cons_succ]
  refine wpAnyH_take (i := 18) (v := ?_) rfl (by kernel_rfl) (by kernel_rfl) (by kernel_rfl) (fun _ _ _ h => h) (Or.inl ⟨by rfl, ?_⟩) (by assumption) ?_
  rotate_left
  · intro w hSw
    try dsimp only at hSw
    go_simp
    first | done | (with_reducible rfl)
  try simp only [Act.put, List.setIfInBounds_toArray, List.set_cons_zero, List.set_cons_succ]
  refine wpAnyH_take (i := 19) (v := ?_) rfl (by kernel_rfl) (by kernel_rfl) (by kernel_rfl) (fun _ _ _ h => h) (Or.inl ⟨by rfl, ?_⟩) (by assumption) ?_
  rotate_left
  · intro w hSw
    try dsimp only at hSw
    go_simp
    first | done | (with_reducible rfl)
  try simp only [Act.put, List.setIfInBounds_toArray, List.set_cons_zero, List.set_cons_succ]
  refine wpAnyH_take (i := 20) (v := ?_) rfl (by kernel_rfl) (by kernel_rfl) (by kernel_rfl) (fun _ _ _ h => h) (Or.inl ⟨by rfl, ?_⟩) (by assumption) ?_
  rotate_left
  · intro w hSw
    try dsimp only at hSw
    go_simp
    first | done | (with_reducible rfl)
  try simp only [Act.put, List.setIfInBounds_toArray, List.set_cons_zero, List.set_cons_succ]
  refine wpAnyH_take (i := 21) (v := ?_) rfl (by kernel_rfl) (by kernel_rfl) (by kernel_rfl) (fun _ _ _ h => h) (Or.inl ⟨by rfl, ?_⟩) (by assumption) ?_
  rotate_left
  · intro w hSw
    try dsimp only at hSw
    go_simp
    first | done | (with_reducible rfl)
  try simp only [Act.put, List.setIfInBounds_toArray, List.set_cons_zero, List.set_cons_succ]
  refine wpAnyH_take (i := 22) (v := ?_) rfl (by kernel_rfl) (by kernel_rfl) (by kernel_rfl) (fun _ _ _ h => h) (Or.inl ⟨by rfl, ?_⟩) (by assumption) ?_
  rotate_left
  · intro w hSw
    try dsimp only at hSw
    go_simp
    first | done | (with_reducible rfl)
  try simp only [Act.put, List.setIfInBounds_toArray, List.set_cons_zero, List.set_cons_succ]
  refine wpAnyH_take (i := 23) (v := ?_) rfl (by kernel_rfl) (by kernel_rfl) (by kernel_rfl) (fun _ _ _ h => h) (Or.inl ⟨by rfl, ?_⟩) (by assumption) ?_
  rotate_left
  · intro w hSw
    try dsimp only at hSw
    go_simp
    first | done | (with_reducible rfl)
  try simp only [Act.put, List.setIfInBounds_toArray, List.set_cons_zero, List.set_cons_succ]
  refine wpAnyH_take (i := 24) (v := ?_) rfl (by kernel_rfl) (by kernel_rfl) (by kernel_rfl) (fun _ _ _ h => h) (Or.inl ⟨by rfl, ?_⟩) (by assumption) ?_
  rotate_left
  · intro w hSw
    try dsimp only at hSw
    go_simp
    first | done | (with_reducible rfl)
  try simp only [Act.put, List.setIfInBounds_toArray, List.set_cons_zero, List.set_cons_succ]
  refine wpAnyH_take (i := 25) (v := ?_) rfl (by kernel_rfl) (by kernel_rfl) (by kernel_rfl) (fun _ _ _ h => h) (Or.inl ⟨by rfl, ?_⟩) (by assumption) ?_
  rotate_left
  · intro w hSw
    try dsimp only at hSw
    go_simp
    first | done | (with_reducible rfl)
  try simp only [Act.put, List.setIfInBounds_toArray, List.set_cons_zero, List.set_cons_succ]
  refine wpAnyH_ready (rs := [4, 26]) (by kernel_rfl) (by simp) ?_
  refine AllReadyH.cons (i := 4) rfl (fun K hK => ?_) ?_
  · go_simp
    refine hK.out _ _ ?_ (fun hHeld => ?_)
    · (try dsimp only)
      first | done | go_keep | (refine ⟨?_, ?_⟩ <;> (rw [World.cell?_setCell_other _ _ _ _ (by simp)]; assumption))
    clear hK K
    try simp only [Act.put, List.setIfInBounds_toArray, List.set_cons_zero, List.set_cons_succ]
    refine wpAnyH_ready (rs := [26]) (by kernel_rfl) (by simp) ?_
    refine AllReadyH.cons (i := 26) rfl (fun K hK => ?_) ?_
    · go_simp
      refine hK.out _ _ ?_ (fun hHeld => ?_)
      · (try dsimp only)
        first | done | go_keep | (refine ⟨?_, ?_⟩ <;> (rw [World.cell?_setCell_other _ _ _ _ (by simp)]; assumption))
      clear hK K
      try simp only [Act.put, List.setIfInBounds_toArray, List.set_cons_zero, List.set_cons_succ]
      refine wpAnyH_ready (rs := [27]) (by kernel_rfl) (by simp) ?_
      refine AllReadyH.cons (i := 27) rfl (fun K hK => ?_) ?_
      · refine step_push (w0 := w.drew) rfl (.tmp 11) (.tmp 33) 24 rfl base 33 (.agg #[.int .i64 0, .string ⟨#[]⟩, .int .i64 0]) 3 32 info_tok Tryz.underlying24 rfl (by omega) v _ _ (by rfl) HO.out [.int .i64 (k : Int), .string (s.extract at' (at' + n)), .int .i64 (at' : Int)] rfl (by rfl) (by intro u hu; simp at hu; rcases hu with rfl | rfl | rfl <;> rfl) (by unfold maxLen; omega) (by omega) (Nat.le_of_lt (Nat.lt_of_le_of_lt hbp HZ.out.lt)) ?_
        intro v' w' ho hg
        obtain ⟨ao, n', c', rfl⟩ := own_form ho
        have hz2 := put_kept HZ.out HO.out hg
        have d4 : w'.cell? ⟨p, 4, none⟩ = some v := (hz2.cell 4).trans rfl
        have f4 : w'.frozen? ⟨p, 4, none⟩ = false := hz2.frozen 4
        have f1 : w'.frozen? ⟨p, 1, none⟩ = false := hz2.frozen 1
        have d0 : w'.cell? ⟨p, 0, none⟩ = some (.string s) := (hz2.cell 0).trans rfl
        have d1 : w'.cell? ⟨p, 1, none⟩ = some (.int .i64 (at' : Int)) := (hz2.cell 1).trans rfl
        have HZ2 := Lib.hid hz2
        have HO2 := Lib.hid ho
        have HG2 := Lib.hid hg
        clear hz2 ho hg
        refine hK.out _ _ ?_ (fun hHeld => ?_)
        · (try dsimp only)
          first | done | go_keep | (refine ⟨?_, ?_⟩ <;> (rw [World.cell?_setCell_other _ _ _ _ (by simp)]; assumption))
        clear hK K
        try simp only [Act.put, List.setIfInBounds_toArray, List.set_cons_zero, List.set_cons_succ]
        refine wpAnyH_take (i := 28) (v := ?_) rfl (by kernel_rfl) (by kernel_rfl) (by kernel_rfl) (fun _ _ _ h => h) (Or.inl ⟨by rfl, ?_⟩) (by assumption) ?_
        rotate_left
        · intro w hSw
          try dsimp only at hSw
          go_simp
          first | done | (with_reducible rfl)
        try simp only [Act.put, List.setIfInBounds_toArray, List.set_cons_zero, List.set_cons_succ]
        refine wpAnyH_take (i := 29) (v := ?_) rfl (by kernel_rfl) (by kernel_rfl) (by kernel_rfl) (fun _ _ _ h => h) (Or.inl ⟨by rfl, ?_⟩) (by assumption) ?_
        rotate_left
        · intro w hSw
          try dsimp only at hSw
          go_simp
          first | done | (with_reducible rfl)
        try simp only [Act.put, List.setIfInBounds_toArray, List.set_cons_zero, List.set_cons_succ]
        refine wpAnyH_ready (rs := [30]) (by kernel_rfl) (by simp) ?_
        refine AllReadyH.cons (i := 30) rfl (fun K hK => ?_) ?_
        · go_simp
          refine hK.out _ _ ?_ (fun hHeld => ?_)
          · (try dsimp only)
            first | done | go_keep | (refine ⟨?_, ?_⟩ <;> (rw [World.cell?_setCell_other _ _ _ _ (by simp)]; assumption))
          clear hK K
          try simp only [Act.put, List.setIfInBounds_toArray, List.set_cons_zero, List.set_cons_succ]
          refine wpAnyH_done (by kernel_rfl) ?_ _
          refine NoPanic.normal ?_
          go_wp2_with fail
          go_ret
          have hz3 := (Blk.set_ (Blk.set_ HZ2.out 4 (.slice ao n' c')) 1 (.int .i64 ((at' : Int) + (n : Int))))
          refine ⟨rfl, .slice ao n' c', ?_, ?_, ?_⟩
          · simpa [ZAt] using hz3
          · have h := own_setBlk (i := 1) (own_setBlk (i := 4) HO2.out HZ2.out (by decide) (.slice ao n' c')) (Blk.set_ HZ2.out 4 (.slice ao n' c')) (by decide) (.int .i64 ((at' : Int) + (n : Int)))
            have e : (toksCells (ts ++ [⟨k, (s.data.toList.drop at').take n, at'⟩])) = toksCells ts ++ [.int .i64 (k : Int), .string (s.extract at' (at' + n)), .int .i64 (at' : Int)] := by
              rw [toksCells_push, Tok.cells]
              have : (⟨((s.data.toList.drop at').take n).toArray⟩ : ByteArray) = s.extract at' (at' + n) := by
                rw [← mk_data (s.extract at' (at' + n)), Lib.extract_data, show at' + n - at' = n by omega]
              rw [this]
            rw [e, List.length_append]
            exact h
          · have hlt := HZ.out.lt
            have hb := ((Below.refl base w).drew).grown HG2.out (Nat.le_of_lt (Nat.lt_of_le_of_lt hbp hlt)) (fun g hg => (HO.out.lt g hg).1)
            exact (hb.setCell (p := ⟨p, 4, none⟩) hbp _).setCell (p := ⟨p, 1, none⟩) hbp _
        exact AllReadyH.nil
      exact AllReadyH.nil
    exact AllReadyH.nil
  refine AllReadyH.cons (i := 26) rfl (fun K hK => ?_) ?_
  · go_simp
    refine hK.out _ _ ?_ (fun hHeld => ?_)
    · (try dsimp only)
      first | done | go_keep | (refine ⟨?_, ?_⟩ <;> (rw [World.cell?_setCell_other _ _ _ _ (by simp)]; assumption))
    clear hK K
    try simp only [Act.put, List.setIfInBounds_toArray, List.set_cons_zero, List.set_cons_succ]
    refine wpAnyH_ready (rs := [4]) (by kernel_rfl) (by simp) ?_
    refine AllReadyH.cons (i := 4) rfl (fun K hK => ?_) ?_
    · go_simp
      refine hK.out _ _ ?_ (fun hHeld => ?_)
      · (try dsimp only)
        first | done | go_keep | (refine ⟨?_, ?_⟩ <;> (rw [World.cell?_setCell_other _ _ _ _ (by simp)]; assumption))
      clear hK K
      try simp only [Act.put, List.setIfInBounds_toArray, List.set_cons_zero, List.set_cons_succ]
      refine wpAnyH_ready (rs := [27]) (by kernel_rfl) (by simp) ?_
      refine AllReadyH.cons (i := 27) rfl (fun K hK => ?_) ?_
      · refine step_push (w0 := w.drew) rfl (.tmp 11) (.tmp 33) 24 rfl base 33 (.agg #[.int .i64 0, .string ⟨#[]⟩, .int .i64 0]) 3 32 info_tok Tryz.underlying24 rfl (by omega) v _ _ (by rfl) HO.out [.int .i64 (k : Int), .string (s.extract at' (at' + n)), .int .i64 (at' : Int)] rfl (by rfl) (by intro u hu; simp at hu; rcases hu with rfl | rfl | rfl <;> rfl) (by unfold maxLen; omega) (by omega) (Nat.le_of_lt (Nat.lt_of_le_of_lt hbp HZ.out.lt)) ?_
        intro v' w' ho hg
        obtain ⟨ao, n', c', rfl⟩ := own_form ho
        have hz2 := put_kept HZ.out HO.out hg
        have d4 : w'.cell? ⟨p, 4, none⟩ = some v := (hz2.cell 4).trans rfl
        have f4 : w'.frozen? ⟨p, 4, none⟩ = false := hz2.frozen 4
        have f1 : w'.frozen? ⟨p, 1, none⟩ = false := hz2.frozen 1
        have d0 : w'.cell? ⟨p, 0, none⟩ = some (.string s) := (hz2.cell 0).trans rfl
        have d1 : w'.cell? ⟨p, 1, none⟩ = some (.int .i64 (at' : Int)) := (hz2.cell 1).trans rfl
        have HZ2 := Lib.hid hz2
        have HO2 := Lib.hid ho
        have HG2 := Lib.hid hg
        clear hz2 ho hg
        refine hK.out _ _ ?_ (fun hHeld => ?_)
        · (try dsimp only)
          first | done | go_keep | (refine ⟨?_, ?_⟩ <;> (rw [World.cell?_setCell_other _ _ _ _ (by simp)]; assumption))
        clear hK K
        try simp only [Act.put, List.setIfInBounds_toArray, List.set_cons_zero, List.set_cons_succ]
        refine wpAnyH_take (i := 28) (v := ?_) rfl (by kernel_rfl) (by kernel_rfl) (by kernel_rfl) (fun _ _ _ h => h) (Or.inl ⟨by rfl, ?_⟩) (by assumption) ?_
        rotate_left
        · intro w hSw
          try dsimp only at hSw
          go_simp
          first | done | (with_reducible rfl)
        try simp only [Act.put, List.setIfInBounds_toArray, List.set_cons_zero, List.set_cons_succ]
        refine wpAnyH_take (i := 29) (v := ?_) rfl (by kernel_rfl) (by kernel_rfl) (by kernel_rfl) (fun _ _ _ h => h) (Or.inl ⟨by rfl, ?_⟩) (by assumption) ?_
        rotate_left
        · intro w hSw
          try dsimp only at hSw
          go_simp
          first | done | (with_reducible rfl)
        try simp only [Act.put, List.setIfInBounds_toArray, List.set_cons_zero, List.set_cons_succ]
        refine wpAnyH_ready (rs := [30]) (by kernel_rfl) (by simp) ?_
        refine AllReadyH.cons (i := 30) rfl (fun K hK => ?_) ?_
        · go_simp
          refine hK.out _ _ ?_ (fun hHeld => ?_)
          · (try dsimp only)
            first | done | go_keep | (refine ⟨?_, ?_⟩ <;> (rw [World.cell?_setCell_other _ _ _ _ (by simp)]; assumption))
          clear hK K
          try simp only [Act.put, List.setIfInBounds_toArray, List.set_cons_zero, List.set_cons_succ]
          refine wpAnyH_done (by kernel_rfl) ?_ _
          refine NoPanic.normal ?_
          go_wp2_with fail
          go_ret
          have hz3 := (Blk.set_ (Blk.set_ HZ2.out 4 (.slice ao n' c')) 1 (.int .i64 ((at' : Int) + (n : Int))))
          refine ⟨rfl, .slice ao n' c', ?_, ?_, ?_⟩
          · simpa [ZAt] using hz3
          · have h := own_setBlk (i := 1) (own_setBlk (i := 4) HO2.out HZ2.out (by decide) (.slice ao n' c')) (Blk.set_ HZ2.out 4 (.slice ao n' c')) (by decide) (.int .i64 ((at' : Int) + (n : Int)))
            have e : (toksCells (ts ++ [⟨k, (s.data.toList.drop at').take n, at'⟩])) = toksCells ts ++ [.int .i64 (k : Int), .string (s.extract at' (at' + n)), .int .i64 (at' : Int)] := by
              rw [toksCells_push, Tok.cells]
              have : (⟨((s.data.toList.drop at').take n).toArray⟩ : ByteArray) = s.extract at' (at' + n) := by
                rw [← mk_data (s.extract at' (at' + n)), Lib.extract_data, show at' + n - at' = n by omega]
              rw [this]
            rw [e, List.length_append]
            exact h
          · have hlt := HZ.out.lt
            have hb := ((Below.refl base w).drew).grown HG2.out (Nat.le_of_lt (Nat.lt_of_le_of_lt hbp hlt)) (fun g hg => (HO.out.lt g hg).1)
            exact (hb.setCell (p := ⟨p, 4, none⟩) hbp _).setCell (p := ⟨p, 1, none⟩) hbp _
        exact AllReadyH.nil
      exact AllReadyH.nil
    exact AllReadyH.nil
  exact AllReadyH.nil
end Go.Proofs.YtpkeonafcldkhaaGreatDoor
/- The shelf's contracts that are used here (laid by the kit's lay-shelf and lay-plain). -/
set_option linter.unusedVariables false
set_option linter.unusedSimpArgs false
namespace Go.Proofs
open Go.Shelf
open Go.Shelf
def Tryz.lays169_ren : Go.Shelf.Ren := ⟨fun | 169 => 42 | n => n, fun | 70 => 66 | 9 => 9 | 0 => 0 | 72 => 68 | 37 => 40 | 127 => 101 | 3 => 3 | 5 => 5 | n => n, fun | n => n⟩
theorem Tryz.lays169 : Go.Proofs.Lays.n169 Tryz.prog Tryz.lays169_ren := {
  mixed := by kernel_rfl
  f169 := Tryz.func42.trans (congrArg some (by kernel_rfl))
  t0 := Tryz.underlying0
  a0 := Tryz.isAgg0
  z0 := Tryz.sizeOf0
  v0 := Tryz.zeroValue0
  t3 := Tryz.underlying3
  a3 := Tryz.isAgg3
  z3 := Tryz.sizeOf3
  v3 := Tryz.zeroValue3
  t9 := Tryz.underlying9
  a9 := Tryz.isAgg9
  z9 := Tryz.sizeOf9
  v9 := Tryz.zeroValue9
  t37 := Tryz.underlying40
  a37 := Tryz.isAgg40
  z37 := Tryz.sizeOf40
  v37 := Tryz.zeroValue40
  t70 := Tryz.underlying66
  a70 := Tryz.isAgg66
  z70 := Tryz.sizeOf66
  v70 := Tryz.zeroValue66
  t72 := Tryz.underlying68
  a72 := Tryz.isAgg68
  z72 := Tryz.sizeOf68
  v72 := Tryz.zeroValue68
  t127 := Tryz.underlying101
  a127 := Tryz.isAgg101
  z127 := Tryz.sizeOf101
  v127 := Tryz.zeroValue101 }
theorem Tryz.Builder_Extra_169 : Builder.Extra Tryz.prog Tryz.lays169_ren := {
  sizeBuilder := by kernel_rfl
  liesBuilder := by kernel_rfl
  t5 := Tryz.underlying5
  a5 := Tryz.isAgg5
  z5 := Tryz.sizeOf5
  v5 := Tryz.zeroValue5
  infoByte := by kernel_rfl
  cellsByte := by kernel_rfl
  sizeByte := by kernel_rfl
  neB5 := by decide }
open Go.RowKit in
/-- (*strings.Builder).String: "String returns the accumulated string.": WHATEVER THE BUILDER HOLDS. (LAID: no walk: one application.) -/
theorem Tryz.Builder_String_any (B b : Nat) (l : List UInt8) (w : World) (h : Lib.IsBuilder 68 5 B b (Lib.byteCells l) w) (hBw : B ≤ w.heap.size) :
    Calls Tryz.prog 42 #[.pointer (some ⟨b, 0, none⟩)] w fun e w' => e = .returned (.string ⟨l.toArray⟩) ∧ Below B w w' := Any.Builder_String_any Tryz.lays169 Tryz.Builder_Extra_169 B b l w h hBw
def Tryz.lays137_ren : Go.Shelf.Ren := ⟨fun | 137 => 27 | 217 => 48 | 266 => 71 | n => n, fun | 9 => 9 | 5 => 5 | 3 => 3 | n => n, fun | n => n⟩
theorem Tryz.lays137 : Go.Proofs.Lays.n137 Tryz.prog Tryz.lays137_ren := {
  mixed := by kernel_rfl
  f137 := Tryz.func27.trans (congrArg some (by kernel_rfl))
  f217 := Tryz.func48.trans (congrArg some (by kernel_rfl))
  f266 := Tryz.func71.trans (congrArg some (by kernel_rfl))
  t3 := Tryz.underlying3
  a3 := Tryz.isAgg3
  z3 := Tryz.sizeOf3
  v3 := Tryz.zeroValue3
  t5 := Tryz.underlying5
  a5 := Tryz.isAgg5
  z5 := Tryz.sizeOf5
  v5 := Tryz.zeroValue5
  t9 := Tryz.underlying9
  a9 := Tryz.isAgg9
  z9 := Tryz.sizeOf9
  v9 := Tryz.zeroValue9 }
open Go.RowKit in
/-- strings.IndexByte: "IndexByte returns the index of the first instance of c in s, or -1 if c is not present in s.": IT RETURNS 'Lib.indexByte s c'; the world is as it was. (LAID: no walk: one application.) -/
theorem Tryz.strings_IndexByte (s : ByteArray) (c : Int) (w : World) :
    Calls Tryz.prog 27 #[.string s, .int .u8 c] w fun e w' => e = .returned (.int .i64 (Lib.indexByte s.data.toList c.toNat.toUInt8)) ∧ w' = w := Any.strings_IndexByte Tryz.lays137 s c w
def Tryz.lays144_ren : Go.Shelf.Ren := ⟨fun | 144 => 72 | 143 => 93 | 219 => 115 | 217 => 48 | 225 => 125 | 224 => 126 | 267 => 127 | 266 => 71 | 314 => 136 | n => n, fun | 9 => 9 | 4 => 4 | 3 => 3 | 5 => 5 | 46 => 112 | 146 => 162 | 51 => 92 | n => n, fun | 1 => 1 | n => n⟩
theorem Tryz.lays144 : Go.Proofs.Lays.n144 Tryz.prog Tryz.lays144_ren := {
  mixed := by kernel_rfl
  f143 := Tryz.func93.trans (congrArg some (by kernel_rfl))
  f144 := Tryz.func72.trans (congrArg some (by kernel_rfl))
  f217 := Tryz.func48.trans (congrArg some (by kernel_rfl))
  f219 := Tryz.func115.trans (congrArg some (by kernel_rfl))
  f224 := Tryz.func126.trans (congrArg some (by kernel_rfl))
  f225 := Tryz.func125.trans (congrArg some (by kernel_rfl))
  f266 := Tryz.func71.trans (congrArg some (by kernel_rfl))
  f267 := Tryz.func127.trans (congrArg some (by kernel_rfl))
  f314 := Tryz.func136.trans (congrArg some (by kernel_rfl))
  t3 := Tryz.underlying3
  a3 := Tryz.isAgg3
  z3 := Tryz.sizeOf3
  v3 := Tryz.zeroValue3
  t4 := Tryz.underlying4
  a4 := Tryz.isAgg4
  z4 := Tryz.sizeOf4
  v4 := Tryz.zeroValue4
  t5 := Tryz.underlying5
  a5 := Tryz.isAgg5
  z5 := Tryz.sizeOf5
  v5 := Tryz.zeroValue5
  t9 := Tryz.underlying9
  a9 := Tryz.isAgg9
  z9 := Tryz.sizeOf9
  v9 := Tryz.zeroValue9
  t46 := Tryz.underlying112
  a46 := Tryz.isAgg112
  z46 := Tryz.sizeOf112
  v46 := Tryz.zeroValue112
  t51 := Tryz.underlying92
  a51 := Tryz.isAgg92
  z51 := Tryz.sizeOf92
  v51 := Tryz.zeroValue92
  t146 := Tryz.underlying162
  a146 := Tryz.isAgg162
  z146 := Tryz.sizeOf162
  v146 := Tryz.zeroValue162
  g1 := by kernel_rfl }
open Go.RowKit Go.Lib in
/-- strings.Contains: "Contains reports whether substr is within s.": AT A substr OF ONE BYTE c: IT RETURNS 'decide (0 ≤ Lib.indexByte s c)'; the world is as it was. (LAID: no walk: one application.) -/
theorem Tryz.strings_Contains_one (s : ByteArray) (c : UInt8) (w : World) :
    Calls Tryz.prog 72 #[.string s, .string ⟨#[c]⟩] w fun e w' => e = .returned (.bool (decide (0 ≤ Lib.indexByte s.data.toList c))) ∧ w' = w := Any.strings_Contains_one Tryz.lays144 s c w
end Go.Proofs
/- lex: name. -/
set_option linter.unusedVariables false
set_option linter.unusedSimpArgs false
namespace Go.Proofs.YtpkeonafcldkhaaGreatDoor
open Go.RowKit

theorem own_belowT {w w' : World} {base : Nat} {v : Value} {k : Nat} {xs : List Value} (h : w.ownsRow base 33 3 v k xs) (hb : Below w.heap.size w w') : w'.ownsRow base 33 3 v k xs :=
  own_grown (row := none) h ⟨hb.os, hb.tape, hb.output, hb.size, fun i hi _ => hb.block i hi⟩ (by simp)
theorem ZAt.below {w w' : World} {p : Nat} {s : ByteArray} {at' : Nat} {br sq : Bool} {v : Value} (h : ZAt w p s at' br sq v) (hb : Below w.heap.size w w') : ZAt w' p s at' br sq v := Blk.below h hb h.lt
theorem PutPost.from {base p : Nat} {s : ByteArray} {at' : Nat} {br sq : Bool} {ts : List Tok} {w w1 w' : World} {e : Ending} (h : PutPost base p s at' br sq ts w1 e w') (hb : Below base w w1) : PutPost base p s at' br sq ts w e w' := by
  obtain ⟨h1, v, h2, h3, h4⟩ := h
  exact ⟨h1, v, h2, h3, hb.trans h4⟩
set_option maxRecDepth 100000 in
set_option maxHeartbeats 1000000 in
theorem lex_name (w : World) (base p : Nat) (s : ByteArray) (at' n : Nat) (y : Int) (hy : y = (n : Int)) (br sq : Bool) (v : Value) (ts : List Tok) (hs : s.size ≤ 281474976710656) (hn : at' + n ≤ s.size)
    (hz : ZAt w p s at' br sq v) (hown : w.ownsRow base 33 3 v ts.length (toksCells ts)) (hlen : ts.length ≤ 1099511627776) (hbp : base ≤ p) :
    Calls Tryz.prog 49 #[.pointer (some ⟨p, 0, none⟩), .int .i64 y] w (PutPost base p s (at' + n) br sq (ts ++ [⟨nameTok br ((s.data.toList.drop at').take n), (s.data.toList.drop at').take n, at'⟩]) w) := by
  subst hy
  have hw : IntKind.i64.wrap ((at' : Int) + (n : Int)) = ((at' + n : Nat) : Int) := by rw [IntKind.wrap_i64]; omega
  have q1 : (0 ≤ (at' : Int) + (n : Int)) = True := by simp; omega
  have q2 : ((at' : Int) + (n : Int) ≤ (s.size : Int)) = True := by simp; omega
  have q3 : ((at' : Int) ≤ (at' : Int) + (n : Int)) = True := by simp; omega
  have q4 : ((at' : Int) + (n : Int)).toNat = at' + n := by omega
  have c0 : w.cell? ⟨p, 0, none⟩ = some (.string s) := by rw [hz.cell]; rfl
  have c1 : w.cell? ⟨p, 1, none⟩ = some (.int .i64 (at' : Int)) := by rw [hz.cell]; rfl
  obtain ⟨t, ht⟩ : ∃ t, t = s.extract at' (at' + n) := ⟨_, rfl⟩
  have htd : t.data.toList = (s.data.toList.drop at').take n := by rw [ht, Lib.extract_data, show at' + n - at' = n by omega]
  have hts : t.size = n := by rw [ht]; simp; omega
  rw [← htd]
  have hlt := hz.lt
  have HZ := Lib.hid hz
  have HO := Lib.hid hown
  have HD := Lib.hid htd
  have HT := Lib.hid ht
  clear hz hown htd ht
  go_enter Tryz.func49, Tryz.ntmps49
  go_wp2_with fail
  go_quiet (fail)
  have hz2 := HZ.out.below ((below_drewN (Below.refl w.heap.size w) nq))
  have ho2 := own_belowT HO.out ((below_drewN (Below.refl w.heap.size w) nq))
  have hb2 : Below base w (w.drewN nq) := (below_drewN (Below.refl base w) nq)
  rw [← HT.out]
  have d0 : (w.drewN nq).cell? ⟨p, 0, none⟩ = some (.string s) := c0
  generalize w.drewN nq = w2 at hz2 ho2 hb2 d0 ⊢
  go_wp2_with fail
  refine (lex_lower _ _ (by simp; unfold maxLen; omega)).mono ?_
  rintro e w3 ⟨rfl, hb3⟩
  have hL : (t.extract 0 (min (n : Int) 4).toNat).data.toList.map low = (t.data.toList.take 4).map low := by
    rw [extract_to]
    have : t.data.toList.length = n := by rw [len_data]; exact hts
    congr 1
    by_cases h : n ≤ 4
    · rw [List.take_of_length_le (by omega), List.take_of_length_le (by omega)]
    · rw [show (min (n : Int) 4).toNat = 4 by omega]
  rw [hL]
  have hz3 := hz2.below hb3
  have ho3 := own_belowT ho2 hb3
  have hbb := hb2.trans (hb3.mono (Nat.le_of_lt (Nat.lt_of_le_of_lt hbp hz2.lt)))
  have d2 : w3.cell? ⟨p, 2, none⟩ = some (.bool br) := by rw [hz3.cell]; rfl
  obtain ⟨L, hLd⟩ : ∃ L, L = (t.data.toList.take 4).map low := ⟨_, rfl⟩
  rw [← hLd]
  have HZ3 := Lib.hid hz3
  have HO3 := Lib.hid ho3
  have HB := Lib.hid hbb
  have HLd := Lib.hid hLd
  clear hL hz3 ho3 hz2 ho2 hb2 hb3 d0 hbb hLd
  go_wp2_with fail
  refine (Tryz.strings_Contains_one t 58 _).mono ?_
  rintro e w4 ⟨rfl, hw4⟩
  subst hw4
  rw [← Lib.contains_iff_indexByte]
  have hput := fun k hk x (hx : x = ((k : Nat) : Int)) => lex_put w4 base p s at' k n x (n : Int) hx rfl br sq v ts hs hn hk HZ3.out HO3.out hlen hbp
  rw [← HD.out] at hput
  have HP := Lib.hid hput
  clear hput
  cases hc : t.data.toList.contains 58
  · cases br
    · cases h1 : (L == [105, 110, 102])
      · cases h2 : (L == [110, 97, 110])
        · have hk : nameTok false t.data.toList = 1 := by
            rw [nameTok, hc, infnan, ← HLd.out, h1, h2]; rfl
          have HK := Lib.hid hk
          clear hk
          go_wp2_with fail
          refine (HP.out 1 (by omega) _ rfl).mono ?_
          intro e w5 hp
          have h0 := hp.1
          subst h0
          have HQ := Lib.hid (hp.from HB.out)
          clear hp
          go_wp2_with fail
          go_ret
          rw [HK.out]
          exact HQ.out
        · have hk : nameTok false t.data.toList = 3 := by
            rw [nameTok, hc, infnan, ← HLd.out, h1, h2]; rfl
          have HK := Lib.hid hk
          clear hk
          go_wp2_with fail
          refine (HP.out 3 (by omega) _ rfl).mono ?_
          intro e w5 hp
          have h0 := hp.1
          subst h0
          have HQ := Lib.hid (hp.from HB.out)
          clear hp
          go_wp2_with fail
          go_ret
          rw [HK.out]
          exact HQ.out
      · have hk : nameTok false t.data.toList = 3 := by
          rw [nameTok, hc, infnan, ← HLd.out, h1]; rfl
        have HK := Lib.hid hk
        clear hk
        go_wp2_with fail
        refine (HP.out 3 (by omega) _ rfl).mono ?_
        intro e w5 hp
        have h0 := hp.1
        subst h0
        have HQ := Lib.hid (hp.from HB.out)
        clear hp
        go_wp2_with fail
        go_ret
        rw [HK.out]
        exact HQ.out
    · have hk : nameTok true t.data.toList = 1 := by
        rw [nameTok, hc]; rfl
      have HK := Lib.hid hk
      clear hk
      go_wp2_with fail
      refine (HP.out 1 (by omega) _ rfl).mono ?_
      intro e w5 hp
      have h0 := hp.1
      subst h0
      have HQ := Lib.hid (hp.from HB.out)
      clear hp
      go_wp2_with fail
      go_ret
      rw [HK.out]
      exact HQ.out
  · have hk : nameTok br t.data.toList = 2 := by
      rw [nameTok, hc]; rfl
    have HK := Lib.hid hk
    clear hk
    go_wp2_with fail
    refine (HP.out 2 (by omega) _ rfl).mono ?_
    intro e w5 hp
    have h0 := hp.1
    subst h0
    have HQ := Lib.hid (hp.from HB.out)
    clear hp
    go_wp2_with fail
    go_ret
    rw [HK.out]
    exact HQ.out
end Go.Proofs.YtpkeonafcldkhaaGreatDoor
