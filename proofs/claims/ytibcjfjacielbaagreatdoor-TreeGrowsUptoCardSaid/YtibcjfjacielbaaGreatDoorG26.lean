import Derived.Test.YtibcjfjacielbaaGreatDoorG03
import Derived.Test.YtibcjfjacielbaaGreatDoorG16
/- Part of the proof of YtibcjfjacielbaaGreatDoorCardG: TrJ TrJb. -/
set_option linter.unusedVariables false
set_option linter.unusedSimpArgs false
namespace Go.Proofs.YtibcjfjacielbaaGreatDoor
open Go.RowKit
inductive TreeAt (b : Nat) (w : World) : Nat → Value → List (Nat × PR) → Prop
 |mk (d : Nat) (v : Value) (r : PR) (ks : List Value) (segs : Nat → List (Nat × PR)) : NodeAt b w v r ks → (∀ i (h : i < ks.length), TreeAt b w (d + 1) ks[i] (segs i)) → TreeAt b w d v ((d, r) :: (List.range ks.length).flatMap segs)
theorem TreeAt.later {b : Nat} {w w' : World} (hb : Below w.heap.size w w') {d : Nat} {v : Value} {L : List (Nat × PR)} (h : TreeAt b w d v L) : TreeAt b w' d v L := by
 induction h with
 |mk d v r ks segs h0 _ ih => exact .mk d v r ks segs (h0.below hb) fun i hi => ih i hi
theorem NodeAt.kids {b : Nat} {w : World} {v : Value} {r : PR} {ks : List Value} (h : NodeAt b w v r ks) : r.kids = (ks.length : Int) := by cases h <;> rfl
theorem NodeAt.nk {b : Nat} {w : World} {v : Value} {r : PR} {ks : List Value} (h : NodeAt b w v r ks) : nk r = ks.length := by
 unfold Go.Proofs.YtibcjfjacielbaaGreatDoor.nk; rw [h.kids]; rfl
theorem NodeAt.lo {b b' : Nat} {w : World} {v : Value} {r : PR} {ks : List Value} (h : NodeAt b w v r ks) (hb : b' ≤ b) : NodeAt b' w v r ks := by
 cases h with
 |number g hb' hg t c0 => exact .number g (Nat.le_trans hb hb') hg t c0
 |text g hb' hg t c0 => exact .text g (Nat.le_trans hb hb') hg t c0
 |selector g hb' hg t off tim vm ms hm c0 c1 c2 c3 => exact .selector g (Nat.le_trans hb hb') hg t off tim vm ms (hm.lo hb) c0 c1 c2 c3
 |range g hb' hg d p c0 c1 => exact .range g (Nat.le_trans hb hb') hg d p c0 c1
 |subquery g hb' hg d s off tim t x c0 c1 c2 c3 c4 => exact .subquery g (Nat.le_trans hb hb') hg d s off tim t x c0 c1 c2 c3 c4
 |unary g hb' hg o t x c0 c1 => exact .unary g (Nat.le_trans hb hb') hg o t x c0 c1
 |binary g hb' hg o t u x y bo gi on vl vi ls inc card hl hi c0 c1 c2 c3 c4 c5 c6 c7 c8 => exact .binary g (Nat.le_trans hb hb') hg o t u x y bo gi on vl vi ls inc card (hl.lo hb) (hi.lo hb) c0 c1 c2 c3 c4 c5 c6 c7 c8
 |call g hb' hg o va ks hk c0 c1 => exact .call g (Nat.le_trans hb hb') hg o va ks (by obtain ⟨ao, c, h1, h2⟩ := hk; exact ⟨ao, c, h1, fun j hj => by obtain ⟨g, o, a, l, u⟩ := h2 j hj; exact ⟨g, o, a, Nat.le_trans hb l, u⟩⟩) c0 c1
 |aggr g hb' hg o t x wo vl ls hl c0 c1 c2 c3 c4 => exact .aggr g (Nat.le_trans hb hb') hg o t x wo vl ls (hl.lo hb) c0 c1 c2 c3 c4
 |aggr2 g hb' hg o t u x y wo vl ls hl c0 c1 c2 c3 c4 => exact .aggr2 g (Nat.le_trans hb hb') hg o t u x y wo vl ls (hl.lo hb) c0 c1 c2 c3 c4
theorem TreeAt.lo {b b' : Nat} {w : World} (hb : b' ≤ b) {d : Nat} {v : Value} {L : List (Nat × PR)} (h : TreeAt b w d v L) : TreeAt b' w d v L := by
 induction h with
 |mk d v r ks segs h0 _ ih => exact .mk d v r ks segs (h0.lo hb) fun i hi => ih i hi
theorem segs_plain {d : Nat} {segs : Nat → List (Nat × PR)} : ∀ n : Nat, (∀ i, i < n → trees 1 ((segs i).map (·.2)) = true ∧ depthsOf [d] ((segs i).map (·.2)) = (segs i).map (·.1)) →
  trees n (((List.range n).flatMap segs).map (·.2)) = true ∧ depthsOf (List.replicate n d) (((List.range n).flatMap segs).map (·.2)) = ((List.range n).flatMap segs).map (·.1)
 | 0, _ => ⟨rfl, rfl⟩
 |n + 1, h => by
  obtain ⟨h1, h2⟩ := segs_plain n fun i hi => h i (by omega)
  obtain ⟨h3, h4⟩ := h n (by omega)
  rw [List.range_succ, List.flatMap_append, List.flatMap_cons, List.flatMap_nil, List.append_nil, List.map_append, List.map_append]
  refine ⟨trees_join _ _ n 1 h1 h3, ?_⟩
  rw [List.replicate_succ', depthsOf_app _ _ _ _ (by rw [List.length_replicate]; exact h1), h2, h4]
theorem TreeAt.plain {b : Nat} {w : World} {d : Nat} {v : Value} {L : List (Nat × PR)} (h : TreeAt b w d v L) : trees 1 (L.map (·.2)) = true ∧ depthsOf [d] (L.map (·.2)) = L.map (·.1) := by
 induction h with
 |mk d v r ks segs h0 _ ih =>
  obtain ⟨h1, h2⟩ := segs_plain ks.length fun i hi => ih i hi
  rw [List.map_cons, List.map_cons]
  refine ⟨?_, ?_⟩
  ·show trees (nk r + 0) _ = true
   rw [h0.nk]; exact h1
  ·rw [depthsOf, h0.nk, List.append_nil, h2]
def annot (d : Nat) (rs : List PR) : List (Nat × PR) := (depthsOf [d] rs).zip rs
theorem zip_map (L : List (Nat × PR)) : (L.map (·.1)).zip (L.map (·.2)) = L := by
 induction L with
 |nil => rfl
 |cons x L ih => rw [List.map_cons, List.map_cons, List.zip_cons_cons, ih]
theorem TreeAt.annot {b : Nat} {w : World} {d : Nat} {v : Value} {L : List (Nat × PR)} (h : TreeAt b w d v L) : L = annot d (L.map (·.2)) := by
 unfold Go.Proofs.YtibcjfjacielbaaGreatDoor.annot
 rw [h.plain.2, zip_map]
theorem annot_rows {d : Nat} {rs : List PR} (h : trees 1 rs = true) : (annot d rs).map (·.2) = rs := by
 unfold annot
 rw [List.map_snd_zip]
 have := depthsOf_len rs [d] h
 omega
theorem annot_depths {d : Nat} {rs : List PR} (h : trees 1 rs = true) : (annot d rs).map (·.1) = depthsOf [d] rs := by
 unfold annot
 rw [List.map_fst_zip]
 have := depthsOf_len rs [d] h
 omega
def RootAt (b : Nat) (w : World) (v : Value) (L : List (Nat × PR)) : Prop := (v = .nilIface ∧ L = []) ∨ TreeAt b w 1 v L
theorem RootAt.below {b : Nat} {w w' : World} (hb : Below w.heap.size w w') {v : Value} {L : List (Nat × PR)} (h : RootAt b w v L) : RootAt b w' v L := h.elim .inl fun h => .inr (h.later hb)
theorem NodeAt.iface {b : Nat} {w : World} {v : Value} {r : PR} {ks : List Value} (h : NodeAt b w v r ks) : ∃ t g, v = .iface t (.pointer (some ⟨g, 0, none⟩)) := by cases h <;> exact ⟨_, _, rfl⟩
theorem TreeAt.iface {b : Nat} {w : World} {d : Nat} {v : Value} {L : List (Nat × PR)} (h : TreeAt b w d v L) : ∃ t g, v = .iface t (.pointer (some ⟨g, 0, none⟩)) := by
 cases h with
 |mk d v r ks segs h0 _ => exact h0.iface
def Agree (b : Nat) (w w' : World) : Prop := w.heap.size ≤ w'.heap.size ∧ ∀ k, b ≤ k → k < w.heap.size → w'.heap[k]? = w.heap[k]?
theorem Agree.cell {b : Nat} {w w' : World} (h : Agree b w w') {g o : Nat} (hb : b ≤ g) (hg : g < w.heap.size) : w'.cell? ⟨g, o, none⟩ = w.cell? ⟨g, o, none⟩ := World.cell?_of_block (h.2 g hb hg)
theorem Agree.refl (b : Nat) (w : World) : Agree b w w := ⟨Nat.le_refl _, fun _ _ _ => rfl⟩
theorem Agree.below {b : Nat} {w w' w'' : World} (h : Agree b w w') (hb : Below w'.heap.size w' w'') : Agree b w w'' := ⟨Nat.le_trans h.1 hb.size, fun k h1 h2 => (hb.block k (Nat.lt_of_lt_of_le h2 h.1)).trans (h.2 k h1 h2)⟩
def Off (b : Nat) (w : World) (v : Value) : Prop := ∀ q, v.ownBlock = some q → q < b ∨ w.heap.size ≤ q
theorem Agree.grow {b : Nat} {w w' w'' : World} {v : Value} (h : Agree b w w') (hg : w'.grownBy w'' v.ownBlock) (ho : Off b w v) : Agree b w w'' :=
 ⟨Nat.le_trans h.1 hg.size, fun k h1 h2 => (hg.block k (Nat.lt_of_lt_of_le h2 h.1) (fun e => by rcases ho k e.symm with h3 | h3 <;> omega)).trans (h.2 k h1 h2)⟩
theorem StrS.agree {b : Nat} {w w' : World} {v : Value} {ss : List ByteArray} (h : StrS b w v ss) (hB : Agree b w w') : StrS b w' v ss := by
 obtain ⟨ao, c, h1, h2⟩ := h
 refine ⟨ao, c, h1, fun j hj => ?_⟩
 obtain ⟨g, o, a, l, u, x⟩ := h2 j hj
 exact ⟨g, o, a, l, Nat.lt_of_lt_of_le u hB.1, (hB.cell l u).trans x⟩
theorem MatS.agree {b : Nat} {w w' : World} {v : Value} {ms : List PM} (h : MatS b w v ms) (hB : Agree b w w') : MatS b w' v ms := by
 obtain ⟨ao, c, h1, h2⟩ := h
 refine ⟨ao, c, h1, fun j hj => ?_⟩
 obtain ⟨g, o, a, l, u, x, y, z⟩ := h2 j hj
 exact ⟨g, o, a, l, Nat.lt_of_lt_of_le u hB.1, (hB.cell l u).trans x, (hB.cell l u).trans y, (hB.cell l u).trans z⟩
theorem ExpS.agree {b : Nat} {w w' : World} {v : Value} {ks : List Value} (h : ExpS b w v ks) (hB : Agree b w w') : ExpS b w' v ks := by
 obtain ⟨ao, c, h1, h2⟩ := h
 refine ⟨ao, c, h1, fun j hj => ?_⟩
 obtain ⟨g, o, a, l, u, x⟩ := h2 j hj
 exact ⟨g, o, a, l, Nat.lt_of_lt_of_le u hB.1, (hB.cell l u).trans x⟩
theorem NodeAt.agree {b : Nat} {w w' : World} {v : Value} {r : PR} {ks : List Value} (h : NodeAt b w v r ks) (hB : Agree b w w') : NodeAt b w' v r ks := by
 cases h with
 |number g hb hg t c0 => exact .number g hb (Nat.lt_of_lt_of_le hg hB.1) t ((hB.cell hb hg).trans c0)
 |text g hb hg t c0 => exact .text g hb (Nat.lt_of_lt_of_le hg hB.1) t ((hB.cell hb hg).trans c0)
 |selector g hb hg t off tim vm ms hm c0 c1 c2 c3 => exact .selector g hb (Nat.lt_of_lt_of_le hg hB.1) t off tim vm ms (hm.agree hB) ((hB.cell hb hg).trans c0) ((hB.cell hb hg).trans c1) ((hB.cell hb hg).trans c2) ((hB.cell hb hg).trans c3)
 |range g hb hg d p c0 c1 => exact .range g hb (Nat.lt_of_lt_of_le hg hB.1) d p ((hB.cell hb hg).trans c0) ((hB.cell hb hg).trans c1)
 |subquery g hb hg d s off tim t x c0 c1 c2 c3 c4 => exact .subquery g hb (Nat.lt_of_lt_of_le hg hB.1) d s off tim t x ((hB.cell hb hg).trans c0) ((hB.cell hb hg).trans c1) ((hB.cell hb hg).trans c2) ((hB.cell hb hg).trans c3) ((hB.cell hb hg).trans c4)
 |unary g hb hg o t x c0 c1 => exact .unary g hb (Nat.lt_of_lt_of_le hg hB.1) o t x ((hB.cell hb hg).trans c0) ((hB.cell hb hg).trans c1)
 |binary g hb hg o t u x y bo gi on vl vi ls inc card hl hi c0 c1 c2 c3 c4 c5 c6 c7 c8 => exact .binary g hb (Nat.lt_of_lt_of_le hg hB.1) o t u x y bo gi on vl vi ls inc card (hl.agree hB) (hi.agree hB) ((hB.cell hb hg).trans c0) ((hB.cell hb hg).trans c1) ((hB.cell hb hg).trans c2) ((hB.cell hb hg).trans c3) ((hB.cell hb hg).trans c4) ((hB.cell hb hg).trans c5) ((hB.cell hb hg).trans c6) ((hB.cell hb hg).trans c7) ((hB.cell hb hg).trans c8)
 |call g hb hg o va ks hk c0 c1 => exact .call g hb (Nat.lt_of_lt_of_le hg hB.1) o va ks (hk.agree hB) ((hB.cell hb hg).trans c0) ((hB.cell hb hg).trans c1)
 |aggr g hb hg o t x wo vl ls hl c0 c1 c2 c3 c4 => exact .aggr g hb (Nat.lt_of_lt_of_le hg hB.1) o t x wo vl ls (hl.agree hB) ((hB.cell hb hg).trans c0) ((hB.cell hb hg).trans c1) ((hB.cell hb hg).trans c2) ((hB.cell hb hg).trans c3) ((hB.cell hb hg).trans c4)
 |aggr2 g hb hg o t u x y wo vl ls hl c0 c1 c2 c3 c4 => exact .aggr2 g hb (Nat.lt_of_lt_of_le hg hB.1) o t u x y wo vl ls (hl.agree hB) ((hB.cell hb hg).trans c0) ((hB.cell hb hg).trans c1) ((hB.cell hb hg).trans c2) ((hB.cell hb hg).trans c3) ((hB.cell hb hg).trans c4)
theorem TreeAt.agree {b : Nat} {w w' : World} (hB : Agree b w w') {d : Nat} {v : Value} {L : List (Nat × PR)} (h : TreeAt b w d v L) : TreeAt b w' d v L := by
 induction h with
 |mk d v r ks segs h0 _ ih => exact .mk d v r ks segs (h0.agree hB) fun i hi => ih i hi
end Go.Proofs.YtibcjfjacielbaaGreatDoor
