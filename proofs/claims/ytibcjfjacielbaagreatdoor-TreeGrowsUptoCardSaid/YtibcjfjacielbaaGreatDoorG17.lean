import Derived.Test.YtibcjfjacielbaaGreatDoorG08
import Derived.Test.YtibcjfjacielbaaGreatDoorG09
import Derived.Test.YtibcjfjacielbaaGreatDoorG10
import Derived.Test.YtibcjfjacielbaaGreatDoorG16
import Derived.Laws.OwnMore
/- Part of the proof of YtibcjfjacielbaaGreatDoorCardG: TrU TrI TrYa Src. -/
set_option linter.unusedVariables false
set_option linter.unusedSimpArgs false
namespace Go.Proofs.YtibcjfjacielbaaGreatDoor
open Go.RowKit
def LenOK (r : PR) : Prop := r.ms.length ≤ 1099511627776 ∧ r.mls.length ≤ 1099511627776 ∧ r.inc.length ≤ 1099511627776 ∧ r.labels.length ≤ 1099511627776
theorem tree_rowOf {b : Nat} {w : World} {v : Value} {r : PR} {ks : List Value} (h : NodeAt b w v r ks) (hl : LenOK r) : Calls Tryz.prog 60 #[v] w (RowPost w r) := by
 cases h with
 |number g hb hg t c0 => exact rowOf_number g hb hg t c0
 |text g hb hg t c0 => exact rowOf_text g hb hg t c0
 |selector g hb hg t off tim vm ms hm c0 c1 c2 c3 =>
  obtain ⟨ao, c, rfl, _⟩ := id hm
  exact rowOf_selector g hb hg t off tim _ _ _ ms hl.1 hm c0 c1 c2 c3
 |range g hb hg d p c0 c1 => exact rowOf_range g hb hg d p c0 c1
 |subquery g hb hg d s off tim t x c0 c1 c2 c3 c4 => exact rowOf_subquery g hb hg d s off tim t x c0 c1 c2 c3 c4
 |unary g hb hg o t x c0 c1 => exact rowOf_unary g hb hg o t x c0 c1
 |binary g hb hg o t u x y bo gi on vl vi ls inc card hl' hi c0 c1 c2 c3 c4 c5 c6 c7 c8 =>
  obtain ⟨ao, c, rfl, _⟩ := id hl'
  obtain ⟨ai, ci, rfl, _⟩ := id hi
  exact rowOf_binary g hb hg o t u x y bo gi on _ _ _ _ _ _ ls inc card hl.2.1 hl.2.2.1 hl' hi c0 c1 c2 c3 c4 c5 c6 c7 c8
 |call g hb hg o va ks hk c0 c1 => exact rowOf_call g hb hg o va ks hk c0 c1
 |aggr g hb hg o t x wo vl ls hl' c0 c1 c2 c3 c4 =>
  obtain ⟨ao, c, rfl, _⟩ := id hl'
  exact rowOf_aggr g hb hg o t x wo _ _ _ ls hl.2.2.2 hl' c0 c1 c2 c3 c4
 |aggr2 g hb hg o t u x y wo vl ls hl' c0 c1 c2 c3 c4 =>
  obtain ⟨ao, c, rfl, _⟩ := id hl'
  exact rowOf_aggr2 g hb hg o t u x y wo _ _ _ ls hl.2.2.2 hl' c0 c1 c2 c3 c4
end Go.Proofs.YtibcjfjacielbaaGreatDoor
set_option linter.unusedVariables false
set_option linter.unusedSimpArgs false
namespace Go.Proofs.YtibcjfjacielbaaGreatDoor
def pendT : List Nat → List Nat
 | [] => []
 |c :: s => List.replicate (c - 1) (s.length + 2) ++ pendT s
def pend : List Nat → List Nat
 | [] => []
 |c :: s => List.replicate c (s.length + 2) ++ pendT s
def norm : List Nat → List Nat
 | 0 :: c :: s => norm ((c - 1) :: s)
 | [0] => []
 |s => s
termination_by s => s.length
theorem norm_zero (c : Nat) (s : List Nat) : norm (0 :: c :: s) = norm ((c - 1) :: s) := by rw [norm]
theorem norm_one : norm [0] = [] := by rw [norm]
theorem norm_nil : norm [] = [] := by rw [norm] <;> simp
theorem norm_pos {c : Nat} (s : List Nat) (h : 0 < c) : norm (c :: s) = c :: s := by
 rw [norm]
 ·rintro c' s' h'
  injection h' with h1 _
  omega
 ·intro h'
  injection h' with h1 _
  omega
theorem pend_norm : ∀ s : List Nat, pend (norm s) = pend s
 | [] => by rw [norm_nil]
 | [0] => by rw [norm_one]; rfl
 | 0 :: c :: s => by rw [norm_zero, pend_norm ((c - 1) :: s)]; simp [pend, pendT]
 |(c + 1) :: s => by rw [norm_pos s (by omega)]
termination_by s => s.length
theorem norm_len : ∀ s : List Nat, (norm s).length ≤ s.length
  | [] => by rw [norm_nil]; exact Nat.le_refl _
  | [0] => by rw [norm_one]; simp
  | 0 :: c :: s => by
    rw [norm_zero]
    have := norm_len ((c - 1) :: s)
    simp only [List.length_cons] at this ⊢; omega
  | (c + 1) :: s => by rw [norm_pos s (by omega)]; exact Nat.le_refl _
termination_by s => s.length
def Rest (s : List Nat) : Prop := ∀ c t, s = c :: t → 0 < c
theorem rest_norm : ∀ s : List Nat, Rest (norm s)
 | [] => by rw [norm_nil]; intro c t h; cases h
 | [0] => by rw [norm_one]; intro c t h; cases h
 | 0 :: c :: s => by rw [norm_zero]; exact rest_norm ((c - 1) :: s)
 |(c + 1) :: s => by rw [norm_pos s (by omega)]; intro c' t h; injection h with h1 _; omega
termination_by s => s.length
theorem pend_rest {s : List Nat} (h : Rest s) (hn : s ≠ []) : pend s = (s.length + 1) :: pendT s := by
 cases s with
 |nil => exact absurd rfl hn
 |cons c t =>
  have := h c t rfl
  obtain ⟨d, rfl⟩ : ∃ d, c = d + 1 := ⟨c - 1, by omega⟩
  simp [pend, pendT, List.replicate_succ]
theorem pend_nil {s : List Nat} (h : Rest s) : pend s = [] ↔ s = [] := by
 constructor
 ·intro h1
  cases s with
  |nil => rfl
  |cons c t => rw [pend_rest h (by simp)] at h1; cases h1
 ·rintro rfl; rfl
structure Shaping (x : List PR) (s : List Nat) (deep : Nat) : Prop where
 rest : Rest s
 deep_ : deep = maxL (depthsOf [1] x)
 more : x ≠ [] → ∀ y, trees 1 (x ++ y) = trees (pend s).length y ∧ depthsOf [1] (x ++ y) = depthsOf [1] x ++ depthsOf (pend s) y
 none_ : x = [] → s = []
theorem Shaping.start : Shaping [] [] 0 := ⟨fun c t h => (by cases h), rfl, fun h => absurd rfl h, fun _ => rfl⟩
theorem maxL_snoc (l : List Nat) (a : Nat) : maxL (l ++ [a]) = max (maxL l) a := by
 rw [maxL_app, show maxL [a] = a by rw [maxL_cons]; simp [maxL]]
theorem Shaping.step {x : List PR} {s : List Nat} {deep : Nat} (h : Shaping x s deep) (r : PR) (hs : x = [] ∨ s ≠ []) :
  Shaping (x ++ [r]) (norm (nk r :: s)) (max deep (s.length + 1)) := by
 have hp : ∀ y, trees 1 ((x ++ [r]) ++ y) = trees (pend (nk r :: s)).length y ∧ depthsOf [1] ((x ++ [r]) ++ y) = depthsOf [1] x ++ (s.length + 1) :: depthsOf (pend (nk r :: s)) y := by
  intro y
  rw [List.append_assoc, List.singleton_append]
  by_cases hx : x = []
  ·have h0 := h.none_ hx
   subst hx h0
   simp only [List.nil_append, pend, pendT, List.append_nil, List.length_nil, Nat.zero_add, List.length_replicate, depthsOf, List.nil_append]
   refine ⟨?_, by simp⟩
   show trees (nk r + 0) y = _
   rfl
  ·have hn : s ≠ [] := hs.resolve_left hx
   obtain ⟨h1, h2⟩ := h.more hx (r :: y)
   rw [h1, h2, pend_rest h.rest hn]
   refine ⟨?_, by simp [depthsOf, pend]⟩
   show trees (nk r + (pendT s).length) y = _
   simp [pend]
 refine ⟨rest_norm _, ?_, fun _ y => ?_, fun h => absurd h (by simp)⟩
 ·have h1 := (hp []).2
  rw [List.append_nil, depthsOf_nil] at h1
  rw [h1, maxL_snoc, h.deep_]
 ·obtain ⟨h1, h2⟩ := hp y
  have h3 := (hp []).2
  rw [List.append_nil, depthsOf_nil] at h3
  rw [pend_norm]
  exact ⟨h1, by rw [h2, h3, List.append_assoc]; rfl⟩
theorem Shaping.full {x : List PR} {s : List Nat} {deep : Nat} (h : Shaping x s deep) (hx : x ≠ []) (hs : s = []) (r : PR) (y : List PR) : trees 1 (x ++ r :: y) = false := by
 rw [(h.more hx (r :: y)).1, hs]; rfl
theorem Shaping.done {x : List PR} {s : List Nat} {deep : Nat} (h : Shaping x s deep) : trees 1 x = (!x.isEmpty && s.isEmpty) := by
 by_cases hx : x = []
 ·subst hx; rfl
 ·have h1 := (h.more hx []).1
  rw [List.append_nil] at h1
  rw [h1]
  have h2 := pend_nil h.rest
  cases s with
  |nil => simp [pend, trees, hx]
  |cons c t =>
   rw [pend_rest h.rest (by simp)]
   simp [trees]
theorem Shaping.deepOf {x : List PR} {s : List Nat} {deep : Nat} (h : Shaping x s deep) : deep = deepOf x := h.deep_
theorem trees_many {x y : List PR} {r : PR} (h : (x ++ r :: y).length < nk r) : trees 1 (x ++ r :: y) = false := by
 have gen : ∀ (x : List PR) (n : Nat), (x ++ r :: y).length < nk r → trees n (x ++ r :: y) = false := by
  intro x
  induction x with
  |nil =>
   intro n h
   cases n with
   |zero => rfl
   |succ n =>
    cases hc : trees (n + 1) ([] ++ r :: y) with
    |false => rfl
    |true =>
     have h1 := trees_le y (nk r + n) hc
     simp only [List.nil_append, List.length_cons] at h
     omega
  |cons q x ih =>
   intro n h
   cases n with
   |zero => rfl
   |succ n => exact ih _ (by simp only [List.cons_append, List.length_cons] at h; omega)
 exact gen x 1 h
theorem rangesB_app {x y : List PR} (h : rangesB y = false) : rangesB (x ++ y) = false := by
 induction x with
 |nil => exact h
 |cons r x ih => rw [List.cons_append, rangesB, ih, Bool.and_false]
theorem rangesB_last {x y : List PR} {r : PR} (h : nextSel y = false) (hk : r.kind = 4) : rangesB (x ++ r :: y) = false := by
 refine rangesB_app ?_
 rw [rangesB, h, decide_eq_true hk]
 rfl
def fineB (x y : List PR) : Bool := x.all soundRow && (rangesB (x ++ y) == rangesB y)
theorem rangesB_snoc {x y : List PR} {r : PR} (h : (rangesB (x ++ r :: y) == rangesB (r :: y)) = true) (hr : (!decide (r.kind = 4) || nextSel y) = true) :
  (rangesB ((x ++ [r]) ++ y) == rangesB y) = true := by
 rw [List.append_assoc, List.singleton_append, beq_iff_eq.1 h, rangesB, hr, Bool.true_and]
 simp
theorem fineB_snoc {x y : List PR} {r : PR} (h : fineB x (r :: y) = true) (hs : soundRow r = true) (hr : (!decide (r.kind = 4) || nextSel y) = true) : fineB (x ++ [r]) y = true := by
 unfold fineB at h ⊢
 rw [Bool.and_eq_true] at h ⊢
 exact ⟨by rw [List.all_append, h.1]; simp [hs], rangesB_snoc h.2 hr⟩
theorem fineB_end {x : List PR} (h : fineB x [] = true) : shapeB x = trees 1 x := by
 unfold fineB at h
 rw [Bool.and_eq_true, List.append_nil] at h
 rw [shapeB, h.1, beq_iff_eq.1 h.2]
 simp [rangesB]
end Go.Proofs.YtibcjfjacielbaaGreatDoor
set_option linter.unusedVariables false
set_option linter.unusedSimpArgs false
namespace Go.Proofs.YtibcjfjacielbaaGreatDoor
open Go.RowKit
theorem norm_all : ∀ s : List Nat, (∀ c ∈ s.tail, 0 < c) → ∀ c ∈ norm s, 0 < c
  | [], _ => by rw [norm_nil]; intro c h; cases h
  | [0], _ => by rw [norm_one]; intro c h; cases h
  | 0 :: c :: s, h => by
    rw [norm_zero]
    exact norm_all ((c - 1) :: s) fun x hx => h x (List.mem_cons_of_mem _ hx)
  | (c + 1) :: s, h => by
    rw [norm_pos s (by omega)]
    intro x hx
    rcases List.mem_cons.1 hx with rfl | hx
    · omega
    · exact h x hx
termination_by s => s.length
def intC (n : Nat) : Value := .int .i64 (n : Int)
def OpenS (b : Nat) (W : World) (v : Value) (s : List Nat) : Prop := W.ownsRow b 3 1 v s.length (s.reverse.map intC)
theorem OpenS.nil (b : Nat) (W : World) : OpenS b W (.slice none 0 0) [] := World.ownsRow_nil _ _ _ _
theorem own_pop {W : World} {b n c g : Nat} {e : TypeId} {xs : List Value} {u : Value} (h : W.ownsRow b e 1 (.slice (some ⟨g, 0, none⟩) (n + 1) c) (n + 1) (xs ++ [u])) : W.ownsRow b e 1 (.slice (some ⟨g, 0, none⟩) n c) n xs := by
 have hl : xs.length = n := by have := h.1; simp at this; omega
 refine ⟨by omega, ?_⟩
 rcases h.2 with ⟨hv, _⟩ | ⟨g', cap, cur, hv, h1, h2, h3, h4, h5, h6⟩
 ·cases hv
 ·injection hv with e1 e2 e3
  injection e1 with e1
  injection e1 with e1 _ _
  subst e1 e3
  refine .inr ⟨g, c, cur, rfl, h1, h2, by omega, h4, h5, ?_⟩
  rw [Nat.mul_one] at h6 ⊢
  have := congrArg (List.take n) h6
  rw [List.take_take, Nat.min_eq_left (by omega)] at this
  rw [this, List.take_append_of_le_length (by omega), List.take_of_length_le (by omega)]
theorem OpenS.form {b : Nat} {W : World} {v : Value} {s : List Nat} (h : OpenS b W v s) : (v = .slice none 0 0 ∧ s = []) ∨ ∃ g c, v = .slice (some ⟨g, 0, none⟩) s.length c ∧ b ≤ g ∧ g < W.heap.size := by
 rcases h.2 with ⟨hv, hn⟩ | ⟨g, cap, cur, hv, h1, h2, _⟩
 ·exact .inl ⟨hv, List.length_eq_zero_iff.1 hn⟩
 ·exact .inr ⟨g, cap, hv, h1, (Array.getElem?_eq_some_iff.1 h2).1⟩
theorem OpenS.top {b : Nat} {W : World} {g c x : Nat} {t : List Nat} {n : Nat} (h : OpenS b W (.slice (some ⟨g, 0, none⟩) n c) (x :: t)) : W.cell? ⟨g, t.length, none⟩ = some (.int .i64 (x : Int)) ∧ W.frozen? ⟨g, t.length, none⟩ = false := by
 have h1 := h.2
 obtain rfl : n = (x :: t).length := by
  rcases h.2 with ⟨hv, _⟩ | ⟨g', cap, cur, hv, _⟩
  ·cases hv
  ·injection hv
 refine ⟨?_, World.ownsRow.frozenAt h _⟩
 rw [World.ownsRow.cellAt h t.length (by simp)]
 simp [intC]
theorem OpenS.cap {b : Nat} {W : World} {g c : Nat} {s : List Nat} {n : Nat} (h : OpenS b W (.slice (some ⟨g, 0, none⟩) n c) s) : n ≤ c := by
 rcases h.2 with ⟨hv, _⟩ | ⟨g', cap, cur, hv, _, _, h3, _⟩
 ·cases hv
 ·injection hv with e1 e2 e3
  omega
theorem OpenS.pop {b : Nat} {W : World} {g c x : Nat} {t : List Nat} {n : Nat} (h : OpenS b W (.slice (some ⟨g, 0, none⟩) (n + 1) c) (x :: t)) (hn : n = t.length) : OpenS b W (.slice (some ⟨g, 0, none⟩) n c) t := by
 subst hn
 unfold OpenS at h ⊢
 rw [List.reverse_cons, List.map_append, List.length_cons] at h
 exact own_pop h
theorem OpenS.dec {b : Nat} {W : World} {g c x : Nat} {t : List Nat} {n : Nat} (h : OpenS b W (.slice (some ⟨g, 0, none⟩) n c) (x :: t)) (y : Nat) : OpenS b (W.setCell ⟨g, t.length, none⟩ (.int .i64 (y : Int))) (.slice (some ⟨g, 0, none⟩) n c) (y :: t) := by
 obtain rfl : n = (x :: t).length := by
  rcases h.2 with ⟨hv, _⟩ | ⟨g', cap, cur, hv, _⟩
  ·cases hv
  ·injection hv
 have h2 := (World.ownsRow.stored h t.length (.int .i64 (y : Int))).1
 have e : ((x :: t).reverse.map intC).set t.length (.int .i64 (y : Int)) = (y :: t).reverse.map intC := by
  rw [List.reverse_cons, List.map_append, List.reverse_cons, List.map_append, List.set_append_right _ _ (by simp)]
  simp [intC]
 rw [e] at h2
 exact h2
theorem OpenS.below {b : Nat} {W W' : World} {v : Value} {s : List Nat} (h : OpenS b W v s) (hb : Below W.heap.size W W') : OpenS b W' v s := own_belowE h hb
theorem norm_le {m : Nat} : ∀ s : List Nat, (∀ c ∈ s, c ≤ m) → ∀ c ∈ norm s, c ≤ m
  | [], _ => by rw [norm_nil]; intro c h; cases h
  | [0], _ => by rw [norm_one]; intro c h; cases h
  | 0 :: c :: s, h => by
    rw [norm_zero]
    refine norm_le ((c - 1) :: s) fun x hx => ?_
    rcases List.mem_cons.1 hx with rfl | hx
    · have := h c (by simp); omega
    · exact h x (by simp [hx])
  | (c + 1) :: s, h => by rw [norm_pos s (by omega)]; exact h
termination_by s => s.length
theorem OpenS.sl {b : Nat} {W : World} {v : Value} {s : List Nat} (h : OpenS b W v s) : ∃ a c, v = .slice a s.length c := by
 rcases h.form with ⟨rfl, rfl⟩ | ⟨g, c, rfl, _⟩
 ·exact ⟨none, 0, rfl⟩
 ·exact ⟨_, c, rfl⟩
theorem OpenS.push {b : Nat} {W : World} {v : Value} {s : List Nat} {k : Nat} (h : W.ownsRow b 3 1 v (s.length + 1) (s.reverse.map intC ++ [.int .i64 (k : Int)])) : OpenS b W v (k :: s) := by
 unfold OpenS
 rw [List.reverse_cons, List.map_append, List.length_cons]
 exact h
def sliceLen : Value → Nat
 | .slice _ n _ => n
 | _ => 0
theorem info_int : (Tryz.prog.info? 3).map (fun i => (i.zero, i.size, i.bytes)) = some (some (.int .i64 0), 1, 8) := by kernel_rfl
def SrcV (k : Nat) (w : World) (v : Value) (m : Nat) (news : List Value) : Prop :=
 ∃ ao c, v = .slice ao m c ∧ news.length = m * k ∧ (∀ u ∈ news, u.oneCell' = true) ∧ ((ao = none ∧ m = 0) ∨ ∃ ad, ao = some ad ∧ ∀ j u, news[j]? = some u → w.cell? (ad.add j) = some u)
theorem SrcV.below {k m : Nat} {w w' : World} {v : Value} {news : List Value} (h : SrcV k w v m news) (hb : Below w.heap.size w w') : SrcV k w' v m news := by
 obtain ⟨ao, c, h1, h2, h3, h4⟩ := h
 refine ⟨ao, c, h1, h2, h3, h4.imp id ?_⟩
 rintro ⟨ad, e, h5⟩
 refine ⟨ad, e, fun j u hu => ?_⟩
 have h6 := h5 j u hu
 refine (hb.cell ?_).trans h6
 rcases Nat.lt_or_ge (ad.add j).block w.heap.size with hlt | hge
 ·exact hlt
 ·unfold World.cell? at h6
  rw [Array.getElem?_eq_none hge] at h6
  simp at h6
theorem run_append_none_any {P : Program} {w : World} (base : Nat) (t ty e : TypeId) (i : TypeInfo) (size : Nat) (ht : P.underlying t = some (.slice e)) (hi : P.info? e = some i)
  (v : Value) (n c : Nat) (xs : List Value) (hown : w.ownsRow base e size v n xs) :
  (Builtin.append_ #[t, t] ty #[v, .slice none 0 c]).run P w = .ok v w := by
 rcases hown.2 with ⟨rfl, rfl⟩ | ⟨g, cap, cur, rfl, _, _, hnc, _⟩
 ·simp [Builtin.append_, run_underlying ht, sizeOf, typeInfo, hi, Builtin.lenOf, Builtin.firstCells]
 ·simp [Builtin.append_, run_underlying ht, sizeOf, typeInfo, hi, Builtin.lenOf, Builtin.firstCells, hnc, storeCells]
theorem run_append_src {P : Program} (w : World) (base : Nat) (t ty e : TypeId) (z : Value) (size bytes : Nat) (hinfo : (P.info? e).map (fun i => (i.zero, i.size, i.bytes)) = some (some z, size, bytes)) (ht : P.underlying t = some (.slice e))
  (hzs : z.cells.size = size) (hsz : 0 < size) (v : Value) (n : Nat) (xs : List Value) (hown : w.ownsRow base e size v n xs) (u : Value) (m : Nat) (news : List Value) (hsrc : SrcV size w u m news)
  (hmax : n + m ≤ maxLen) (hb : (n + m) * bytes ≤ 140737488355328) (hbase : base ≤ w.heap.size) :
  ∃ v' w', (Builtin.append_ #[t, t] ty #[v, u]).run P w = .ok v' w' ∧ w'.ownsRow base e size v' (n + m) (xs ++ news) ∧ w.grownBy w' v.ownBlock := by
 obtain ⟨i, hi, hz, hsi, hby⟩ := info_parts hinfo
 obtain ⟨ao, c, rfl, hl, h1, h2⟩ := hsrc
 rcases h2 with ⟨rfl, rfl⟩ | ⟨ad, rfl, hc⟩
 ·have h0 : news = [] := List.length_eq_zero_iff.1 (by simpa using hl)
  subst h0
  refine ⟨v, w, run_append_none_any base t ty e i size ht hi v n c xs hown, by simpa using hown, rfl, rfl, rfl, Nat.le_refl _, fun _ _ _ => rfl⟩
 ·obtain ⟨v', w', hr, ho, hg, _⟩ := run_append_own (P := P) w base t ty e i z size bytes ht hi hz hsi hby hzs hsz v n xs hown ad m c news hl hc h1 hmax hb hbase
  exact ⟨v', w', hr, ho, hg⟩
theorem wpList_append_srcV {P : Program} {w : World} {ops : Array Oper} {rest : List Oper} {o : Oper} {a : Act} {Q : Exit → Act → World → Prop}
  (hg : o.guard = none) (s x : Operand) (t : TypeId) (hop : o.op = Op.call { callee := Callee.builtin Builtin.append, args := #[s, x], argTypes := #[t, t] })
  (base : Nat) (e : TypeId) (z : Value) (size bytes : Nat) (hinfo : (P.info? e).map (fun i => (i.zero, i.size, i.bytes)) = some (some z, size, bytes)) (h1 : P.underlying t = some (.slice e)) (hzs : z.cells.size = size) (hsz : 0 < size)
  (v : Value) (n : Nat) (xs : List Value) (hs : a.eval s = v) (hown : w.ownsRow base e size v n xs) (u : Value) (m : Nat) (news : List Value) (hx : a.eval x = u) (hsrc : SrcV size w u m news)
  (hmax : n + m ≤ maxLen) (hb : (n + m) * bytes ≤ 140737488355328) (hbase : base ≤ w.heap.size)
  (hK : ∀ v' w', w'.ownsRow base e size v' (n + m) (xs ++ news) → w.grownBy w' v.ownBlock → wpList P ops Q rest (a.put o.dst v') w') :
  wpList P ops Q (o :: rest) a w := by
 refine wpList_plain hg fun K hKK => ?_
 obtain ⟨v', w', hr, r1, r2⟩ := run_append_src (P := P) w base t o.type e z size bytes hinfo h1 hzs hsz v n xs hown u m news hsrc hmax hb hbase
 unfold Oper.wp execOp
 simp only [hop, resolve, invoke, builtin, Sem.run_bind, Sem.run_pure, Result.andThen_ok, List.map_toArray, List.map_cons, List.map_nil, hs, hx, hr]
 exact hKK _ _ (hK v' w' r1 r2)
theorem step_append_srcV {P : Program} {w : World} {ops : Array Oper} {o : Oper} {a : Act} {K : Act → World → Prop} {Q : Exit → Act → World → Prop} {E : Prop}
  (hg : o.guard = none) (s x : Operand) (t : TypeId) (hop : o.op = Op.call { callee := Callee.builtin Builtin.append, args := #[s, x], argTypes := #[t, t] })
  (base : Nat) (e : TypeId) (z : Value) (size bytes : Nat) (hinfo : (P.info? e).map (fun i => (i.zero, i.size, i.bytes)) = some (some z, size, bytes)) (h1 : P.underlying t = some (.slice e)) (hzs : z.cells.size = size) (hsz : 0 < size)
  (v : Value) (n : Nat) (xs : List Value) (hs : a.eval s = v) (hown : w.ownsRow base e size v n xs) (u : Value) (m : Nat) (news : List Value) (hx : a.eval x = u) (hsrc : SrcV size w u m news)
  (hmax : n + m ≤ maxLen) (hb : (n + m) * bytes ≤ 140737488355328) (hbase : base ≤ w.heap.size)
  (hK : ∀ v' w', w'.ownsRow base e size v' (n + m) (xs ++ news) → w.grownBy w' v.ownBlock → K (a.put o.dst v') w') :
  if Region.wanted o (yielded ops a.tmps) = true then Oper.wp P o a w K Q else E := by
 have hw : Region.wanted o (yielded ops a.tmps) = true := by simp [Region.wanted, hg]
 rw [if_pos hw]
 obtain ⟨v', w', hr, r1, r2⟩ := run_append_src (P := P) w base t o.type e z size bytes hinfo h1 hzs hsz v n xs hown u m news hsrc hmax hb hbase
 unfold Oper.wp execOp
 simp only [hop, resolve, invoke, builtin, Sem.run_bind, Sem.run_pure, Result.andThen_ok, List.map_toArray, List.map_cons, List.map_nil, hs, hx, hr]
 exact hK v' w' r1 r2
theorem MatS.src {b : Nat} {w : World} {v : Value} {ms : List PM} (h : MatS b w v ms) : SrcV 3 w v ms.length (ms.flatMap matC) := by
 obtain ⟨ao, c, rfl, hc⟩ := h
 refine ⟨ao, c, rfl, flat_len matC 3 (fun _ => rfl) ms, fun u hu => ?_, ?_⟩
 ·obtain ⟨m, _, hm⟩ := List.mem_flatMap.1 hu
  simp only [matC, List.mem_cons, List.not_mem_nil, or_false] at hm
  rcases hm with rfl | rfl | rfl <;> rfl
 ·cases ms with
  |nil => cases ao with
   |none => exact .inl ⟨rfl, rfl⟩
   |some a => exact .inr ⟨a, rfl, fun j u hu => by simp at hu⟩
  |cons m ms =>
   obtain ⟨g, o, rfl, _⟩ := hc 0 (by simp)
   refine .inr ⟨_, rfl, fun j u hu => ?_⟩
   rw [Addr.add_lit]
   refine flat_cells matC 3 (fun _ => rfl) (by decide) (m :: ms) w g o (fun j hj i hi => ?_) j u hu
   obtain ⟨g', o', he, _, _, x, y, z⟩ := hc j hj
   cases he
   match i, hi with
   | 0, _ => exact x
   | 1, _ => exact y
   | 2, _ => exact z
theorem own_srcV {w : World} {b : Nat} {e : TypeId} {k n : Nat} {v : Value} {xs : List Value} (h : w.ownsRow b e k v n xs) (h1 : ∀ u ∈ xs, u.oneCell' = true) : SrcV k w v n xs := by
 rcases h.2 with ⟨hv, hn⟩ | ⟨g, cap, cur, hv, _⟩
 ·subst hn
  exact ⟨none, 0, hv, h.1, h1, .inl ⟨rfl, rfl⟩⟩
 ·subst hv
  exact ⟨_, cap, rfl, h.1, h1, .inr ⟨_, rfl, h.cells rfl⟩⟩
end Go.Proofs.YtibcjfjacielbaaGreatDoor
