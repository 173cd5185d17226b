import Derived.Test.YtpkeonafcldkhaaGreatDoorM32
/- weirlaw11: rows of tokens that are written over and grown (memory). -/
set_option linter.unusedVariables false
set_option linter.unusedSimpArgs false
namespace Go.Proofs.YtpkeonafcldkhaaGreatDoor
open Go.RowKit

abbrev Row := Int × ByteArray × Int
def Row.cells (x : Row) : List Value := [.int .i64 x.1, .string x.2.1, .int .i64 x.2.2]
def rowCells (xs : List Row) : List Value := xs.flatMap Row.cells
theorem rowCells_append (a b : List Row) : rowCells (a ++ b) = rowCells a ++ rowCells b := by simp [rowCells]
theorem rowCells_toks : ∀ ts : List Tok, rowCells (ts.map tokV) = toksCells ts
  | [] => rfl
  | t :: r => by
    have := rowCells_toks r
    simp only [rowCells, toksCells, List.map_cons, List.flatMap_cons] at this ⊢
    rw [this]; rfl
theorem rowCells_len : ∀ xs : List Row, (rowCells xs).length = xs.length * 3
  | [] => rfl
  | x :: r => by
    have := rowCells_len r
    simp only [rowCells, List.flatMap_cons, List.length_append, List.length_cons, Row.cells, List.length_nil] at this ⊢
    omega
theorem rowCells_at : ∀ (xs : List Row) (j : Nat) (h : j < xs.length), (rowCells xs)[j * 3]? = some (.int .i64 xs[j].1) ∧ (rowCells xs)[j * 3 + 1]? = some (.string xs[j].2.1) ∧ (rowCells xs)[j * 3 + 2]? = some (.int .i64 xs[j].2.2)
  | [], j, h => by simp at h
  | x :: r, 0, h => ⟨rfl, rfl, rfl⟩
  | x :: r, j + 1, h => by
    obtain ⟨a, b, c⟩ := rowCells_at r j (by simpa using h)
    have e : rowCells (x :: r) = Row.cells x ++ rowCells r := by simp [rowCells]
    have hl : (Row.cells x).length = 3 := rfl
    rw [e]
    refine ⟨?_, ?_, ?_⟩
    · rw [List.getElem?_append_right (by rw [hl]; omega), hl, show (j + 1) * 3 - 3 = j * 3 by omega]; exact a
    · rw [List.getElem?_append_right (by rw [hl]; omega), hl, show (j + 1) * 3 + 1 - 3 = j * 3 + 1 by omega]; exact b
    · rw [List.getElem?_append_right (by rw [hl]; omega), hl, show (j + 1) * 3 + 2 - 3 = j * 3 + 2 by omega]; exact c
theorem rowCells_set : ∀ (xs : List Row) (j : Nat) (x : Row), j < xs.length → (((rowCells xs).set (j * 3) (.int .i64 x.1)).set (j * 3 + 1) (.string x.2.1)).set (j * 3 + 2) (.int .i64 x.2.2) = rowCells (xs.set j x)
  | [], j, x, h => by simp at h
  | y :: r, 0, x, h => by simp [rowCells, Row.cells]
  | y :: r, j + 1, x, h => by
    have ih := rowCells_set r j x (by simpa using h)
    have e : rowCells (y :: r) = Row.cells y ++ rowCells r := by simp [rowCells]
    have e2 : rowCells ((y :: r).set (j + 1) x) = Row.cells y ++ rowCells (r.set j x) := by simp [rowCells]
    have hl : (Row.cells y).length = 3 := rfl
    rw [e, e2, ← ih, List.set_append_right _ _ (by rw [hl]; omega), List.set_append_right _ _ (by rw [hl]; omega), List.set_append_right _ _ (by rw [hl]; omega), hl, show (j + 1) * 3 - 3 = j * 3 by omega, show (j + 1) * 3 + 1 - 3 = j * 3 + 1 by omega, show (j + 1) * 3 + 2 - 3 = j * 3 + 2 by omega]
theorem rowCells_set1 (xs : List Row) (j : Nat) (s : ByteArray) (h : j < xs.length) : (rowCells xs).set (j * 3 + 1) (.string s) = rowCells (xs.set j (xs[j].1, s, xs[j].2.2)) := by
  obtain ⟨a, _, c⟩ := rowCells_at xs j h
  rw [← rowCells_set xs j _ h]
  apply List.ext_getElem?
  intro i
  have hl := rowCells_len xs
  simp only [List.getElem?_set]
  simp only [List.length_set]
  repeat' split
  all_goals first | rfl | omega | skip
  all_goals (subst_vars; first | (rw [a]; rfl) | (rw [c]; rfl) | simp_all | omega)
theorem rowCells_one (xs : List Row) : ∀ u ∈ rowCells xs, u.oneCell' = true := by
  intro u hu
  obtain ⟨x, _, hx⟩ := List.mem_flatMap.1 hu
  simp only [Row.cells, List.mem_cons, List.not_mem_nil, or_false] at hx
  rcases hx with rfl | rfl | rfl <;> rfl
theorem own_rowAt {w : World} {base e n c : Nat} {ao : Option Addr} {xs : List Row} (h : w.ownsRow base e 3 (.slice ao n c) n (rowCells xs)) : n = xs.length ∧ TokAt w (.slice ao n c) xs := by
  have hn : n = xs.length := by have h1 := h.1; rw [rowCells_len] at h1; omega
  subst hn
  refine ⟨rfl, ao, c, rfl, fun j hj => ?_⟩
  rcases h.2 with ⟨hv, h0⟩ | ⟨g, cap, cur, hv, _⟩
  · omega
  · injection hv with h1 h2 h3
    subst h1
    obtain ⟨a, b, d⟩ := rowCells_at xs j hj
    refine ⟨g, 0, rfl, (h.lt g rfl).2, ?_, ?_, ?_⟩
    · rw [Nat.zero_add, h.cellAt _ (by omega), a]
    · rw [Nat.zero_add, h.cellAt _ (by omega), b]
    · rw [Nat.zero_add, h.cellAt _ (by omega), d]
theorem own_mono {w : World} {b b' : Nat} {e : TypeId} {size n : Nat} {v : Value} {xs : List Value} (h : w.ownsRow b e size v n xs) (hb : b' ≤ b) : w.ownsRow b' e size v n xs := by
  refine ⟨h.1, ?_⟩
  rcases h.2 with hn | ⟨g, cap, cur, rfl, h1, h2⟩
  · exact .inl hn
  · exact .inr ⟨g, cap, cur, rfl, Nat.le_trans hb h1, h2⟩
theorem own_some {w : World} {base : Nat} {e : TypeId} {size n m c : Nat} {ao : Option Addr} {xs : List Value} (h : w.ownsRow base e size (.slice ao n c) m xs) (hm : 0 < m) : ∃ g, ao = some ⟨g, 0, none⟩ ∧ base ≤ g ∧ g < w.heap.size := by
  rcases h.2 with ⟨hv, h0⟩ | ⟨g, cap, cur, hv, hb, hg, _⟩
  · omega
  · injection hv with h1 h2 h3
    subst h1
    exact ⟨g, rfl, hb, (h.lt g rfl).2⟩
/-- A row written over at one place, all three fields. -/
theorem own_put {w : World} {base e g n cap : Nat} {xs : List Row} (h : w.ownsRow base e 3 (.slice (some ⟨g, 0, none⟩) n cap) n (rowCells xs)) (j : Nat) (x : Row) (hj : j < xs.length) :
    (((w.setCell ⟨g, j * 3, none⟩ (.int .i64 x.1)).setCell ⟨g, j * 3 + 1, none⟩ (.string x.2.1)).setCell ⟨g, j * 3 + 2, none⟩ (.int .i64 x.2.2)).ownsRow base e 3 (.slice (some ⟨g, 0, none⟩) n cap) n (rowCells (xs.set j x)) ∧
      w.grownBy (((w.setCell ⟨g, j * 3, none⟩ (.int .i64 x.1)).setCell ⟨g, j * 3 + 1, none⟩ (.string x.2.1)).setCell ⟨g, j * 3 + 2, none⟩ (.int .i64 x.2.2)) (some g) := by
  obtain ⟨a1, a2⟩ := h.stored (j * 3) (.int .i64 x.1)
  obtain ⟨b1, b2⟩ := a1.stored (j * 3 + 1) (.string x.2.1)
  obtain ⟨c1, c2⟩ := b1.stored (j * 3 + 2) (.int .i64 x.2.2)
  rw [rowCells_set xs j x hj] at c1
  exact ⟨c1, grow_trans (grow_trans a2 b2) c2⟩
/-- The same block and capacity. -/
def SameBlk (v v' : Value) : Prop := ∃ g n m cap, v = .slice (some ⟨g, 0, none⟩) n cap ∧ v' = .slice (some ⟨g, 0, none⟩) m cap
/-- What append does, told apart: within the capacity in the same block, or into a block of its own. -/
theorem run_append_two {P : Program} (w : World) (base : Nat) (t ty e : TypeId) (i : TypeInfo) (z : Value) (size bytes : Nat) (ht : P.underlying t = some (.slice e)) (hi : P.info? e = some i) (hz : i.zero = some z)
    (hsize : i.size = size) (hby : i.bytes = bytes) (hzs : z.cells.size = size) (hsz : 0 < size)
    (v : Value) (n : Nat) (xs : List Value) (hown : w.ownsRow base e size v n xs)
    (a : Addr) (m c : Nat) (news : List Value) (hl : news.length = m * size) (hnews : ∀ j u, news[j]? = some u → w.cell? (a.add j) = some u) (h1 : ∀ u ∈ news, u.oneCell' = true)
    (h63 : n + m ≤ maxLen) (hbytes : (n + m) * bytes ≤ 140737488355328) (hbase : base ≤ w.heap.size) (hm : 0 < m) :
    ∃ v' w', (Builtin.append_ #[t, t] ty #[v, .slice (some a) m c]).run P w = .ok v' w' ∧ w'.ownsRow base e size v' (n + m) (xs ++ news) ∧ w.grownBy w' v.ownBlock ∧
      (SameBlk v v' ∨ (v'.ownBlock = some w.heap.size ∧ w.grownBy w' none)) := by
  obtain ⟨v', w', hr, ho, hg, hnil⟩ := run_append_own (P := P) w base t ty e i z size bytes ht hi hz hsize hby hzs hsz v n xs hown a m c news hl hnews h1 h63 hbytes hbase
  refine ⟨v', w', hr, ho, hg, ?_⟩
  rcases hown.2 with ⟨rfl, rfl⟩ | ⟨g, cap, cur, rfl, hbg, hgg, hnc, hcm, hcs, htake⟩
  · refine .inr ⟨?_, hg⟩
    have hb : m * i.bytes ≤ 281474976710656 := by rw [hby]; rw [Nat.zero_add] at hbytes; omega
    have hr2 := run_append_nil (P := P) w t ty e i z ht hi hz a m c news (by rw [hsize]; exact hl) hnews hm (by have := h63; simp only [maxLen] at this; omega) hb
    rw [hr2] at hr
    injection hr with e1 e2
    subst e1
    rfl
  · subst hsize
    by_cases hroom : n + m ≤ cap
    · have hfit : n * i.size + news.length ≤ cur.size := by rw [hl, hcs, ← Nat.add_mul]; exact Nat.mul_le_mul_right _ hroom
      have hr2 := run_append_room (P := P) w t ty e i ht hi g n cap cur hgg a m c news hl hnews h1 hroom hfit
      rw [hr2] at hr
      injection hr with e1 e2
      subst e1
      exact .inl ⟨g, n, n + m, cap, rfl, rfl⟩
    · have holds : ∀ j u, xs[j]? = some u → w.cell? ((⟨g, 0, none⟩ : Addr).add j) = some u := hown.cells (g := g) rfl
      have hr2 := run_append_grow (P := P) w t ty e i z ht hi hz ⟨g, 0, none⟩ n cap xs hown.1 holds a m c news hl hnews (by omega) (by have := h63; simp only [maxLen] at this; omega) (growslice_fits (by omega) (by rw [hby]; exact hbytes))
      rw [hr2] at hr
      injection hr with e1 e2
      subst e1
      refine .inr ⟨rfl, ?_⟩
      rw [← e2]
      exact ⟨rfl, rfl, rfl, by simp, fun _ hk _ => heap_alloc_old w.drew _ hk⟩
/-- 'out = append(out, x)', told apart. -/
theorem wpList_push2 {P : Program} {w0 : World} {ops : Array Oper} {rest : List Oper} {o : Oper} {a : Act} {Q : Exit → Act → World → Prop}
    (hg : o.guard = none) (s x : Operand) (t : TypeId) (hop : o.op = Op.call { callee := Callee.builtin Builtin.append, args := #[s, x], argTypes := #[t, t] })
    (base : Nat) (e : TypeId) (z : Value) (size bytes : Nat) (hinfo : (P.info? e).map (fun i => (i.zero, i.size, i.bytes)) = some (some z, size, bytes)) (h1 : P.underlying t = some (.slice e)) (hzs : z.cells.size = size) (hsz : 0 < size)
    (v : Value) (n : Nat) (xs : List Value) (hs : a.eval s = v) (hown : w0.ownsRow base e size v n xs) (us : List Value) (hus : us.length = size)
    (hx : a.eval x = .slice (some ⟨w0.heap.size, 0, none⟩) 1 1) (h1c : ∀ u ∈ us, u.oneCell' = true) (hmax : n + 1 ≤ maxLen) (hb : (n + 1) * bytes ≤ 140737488355328) (hbase : base ≤ w0.heap.size)
    (hK : ∀ v' w', w'.ownsRow base e size v' (n + 1) (xs ++ us) → w0.grownBy w' v.ownBlock → (SameBlk v v' ∨ (v'.ownBlock = some (w0.heap.size + 1) ∧ w0.grownBy w' none)) → wpList P ops Q rest (a.put o.dst v') w') :
    wpList P ops Q (o :: rest) a (w0.alloc (.cells us.toArray e)) := by
  obtain ⟨i, hi, hz, hsi, hby⟩ := info_parts hinfo
  refine wpList_plain hg fun K hKK => ?_
  obtain ⟨v', w', hr, r1, r2, r3⟩ := run_append_two (P := P) (w0.alloc (.cells us.toArray e)) base t o.type e i z size bytes h1 hi hz hsi hby hzs hsz v n xs (hown.alloc _) ⟨w0.heap.size, 0, none⟩ 1 1 us (by omega)
    (by intro j u hu
        have hj : j < us.length := (List.getElem?_eq_some_iff.1 hu).1
        rw [Addr.add_lit, Nat.zero_add, World.cell?_alloc_at _ _ _ _ rfl]
        simpa using hu) h1c hmax hb (by simp; omega) (by omega)
  unfold Oper.wp execOp
  simp only [hop, resolve, invoke, builtin, Sem.run_bind, Sem.run_pure, Result.andThen_ok, List.map_toArray, List.map_cons, List.map_nil, hs, hx, hr]
  refine hKK _ _ (hK v' w' r1 (grow_trans (World.grownBy_alloc w0 _ _) r2) ?_)
  rcases r3 with h | ⟨h, h'⟩
  · exact .inl h
  · exact .inr ⟨by simpa using h, grow_trans (World.grownBy_alloc w0 _ _) h'⟩
/-- A row that another slice shares stays when that one is grown. -/
theorem duo_push {w w' : World} {b : Nat} {e : TypeId} {size n m k : Nat} {av gv gv' : Value} {A X us : List Value} (ha : w.ownsRow b e size av n A) (hg : w.ownsRow b e size gv m (A ++ X))
    (hr : w'.ownsRow b e size gv' (m + k) (A ++ X ++ us)) (hgr : w.grownBy w' gv.ownBlock) (halt : SameBlk gv gv' ∨ w.grownBy w' none) : w'.ownsRow b e size av n A := by
  rcases halt with ⟨g, n1, m1, cp, rfl, rfl⟩ | h
  · by_cases hs : av.ownBlock = some g
    · rcases ha.2 with hn | ⟨g0, cap, cur, rfl, c1, c2, c3, c4, c5, c6⟩
      · exact ⟨ha.1, .inl hn⟩
      · obtain rfl : g0 = g := by simpa [Value.ownBlock] using hs
        rcases hr.2 with ⟨hv, _⟩ | ⟨g', cap', cur', hv, d1, d2, d3, d4, d5, d6⟩
        · cases hv
        · rcases hg.2 with ⟨hv2, _⟩ | ⟨g2, cap2, cur2, hv2, f1, f2, f3, f4, f5, f6⟩
          · cases hv2
          · simp only [Value.slice.injEq, Option.some.injEq, Addr.mk.injEq, and_true, true_and] at hv hv2
            obtain ⟨rfl, rfl, rfl⟩ := hv
            obtain ⟨rfl, rfl, rfl⟩ := hv2
            rw [c2] at f2
            simp only [Option.some.injEq, Obj.cells.injEq, and_true, true_and] at f2
            subst f2
            refine ⟨ha.1, .inr ⟨g0, cap, cur', rfl, c1, d2, c3, c4, by rw [d5, ← f5, c5], ?_⟩⟩
            have hA : A.length = n * size := ha.1
            have h1 := congrArg (List.take (n * size)) d6
            have h2 := hr.1
            rw [List.length_append, List.length_append] at h2
            rw [List.take_take, Nat.min_eq_left (by omega), List.append_assoc, ← hA, List.take_left] at h1
            rw [← hA]
            exact h1
    · exact own_grown ha hgr fun g1 hg1 hgv => hs (by rw [hg1]; exact hgv)
  · exact own_grown ha h fun g _ hgv => by cases hgv
end Go.Proofs.YtpkeonafcldkhaaGreatDoor
/- weirlaw11: what LexKeeps holds in memory; same of any rows. -/
set_option linter.unusedVariables false
set_option linter.unusedSimpArgs false
namespace Go.Proofs.YtpkeonafcldkhaaGreatDoor
open Go.RowKit

structure Trio (w0 w : World) (n1 n2 n3 n4 : Nat) (av bv wv : Value) (L : Nat) (A B W : List Value) : Prop where
  a : w.ownsRow n1 33 3 av L A
  b : w.ownsRow n1 33 3 bv L B
  wt : w.ownsRow n1 33 3 wv L W
  a2 : ∀ x, av.ownBlock = some x → x < n2
  b2 : ∀ x, bv.ownBlock = some x → n2 ≤ x ∧ x < n3
  w2 : ∀ x, wv.ownBlock = some x → n3 ≤ x ∧ x < n4
  o12 : n1 ≤ n2
  o23 : n2 ≤ n3
  o34 : n3 ≤ n4
  o4 : n4 ≤ w.heap.size
  below : Below n1 w0 w
theorem Trio.putA {w0 w : World} {n1 n2 n3 n4 : Nat} {g c : Nat} {bv wv : Value} {L : Nat} {xs : List Row} {B W : List Value} (h : Trio w0 w n1 n2 n3 n4 (.slice (some ⟨g, 0, none⟩) L c) bv wv L (rowCells xs) B W) (j : Nat) (x : Row) (hj : j < xs.length) :
    Trio w0 (((w.setCell ⟨g, j * 3, none⟩ (.int .i64 x.1)).setCell ⟨g, j * 3 + 1, none⟩ (.string x.2.1)).setCell ⟨g, j * 3 + 2, none⟩ (.int .i64 x.2.2)) n1 n2 n3 n4 (.slice (some ⟨g, 0, none⟩) L c) bv wv L (rowCells (xs.set j x)) B W := by
  obtain ⟨r, gr⟩ := own_put h.a j x hj
  have hg := h.a2 g rfl
  exact ⟨r, own_grown h.b gr fun y hy he => by have := h.b2 y hy; injection he with he; omega, own_grown h.wt gr fun y hy he => by have := h.w2 y hy; have := h.o23; injection he with he; omega,
    h.a2, h.b2, h.w2, h.o12, h.o23, h.o34, Nat.le_trans h.o4 gr.size, h.below.grown gr (Nat.le_trans h.o12 (Nat.le_trans h.o23 (Nat.le_trans h.o34 h.o4))) fun k hk => (h.a.lt k hk).1⟩
theorem Trio.putB {w0 w : World} {n1 n2 n3 n4 : Nat} {g c : Nat} {av wv : Value} {L : Nat} {xs : List Row} {A W : List Value} (h : Trio w0 w n1 n2 n3 n4 av (.slice (some ⟨g, 0, none⟩) L c) wv L A (rowCells xs) W) (j : Nat) (x : Row) (hj : j < xs.length) :
    Trio w0 (((w.setCell ⟨g, j * 3, none⟩ (.int .i64 x.1)).setCell ⟨g, j * 3 + 1, none⟩ (.string x.2.1)).setCell ⟨g, j * 3 + 2, none⟩ (.int .i64 x.2.2)) n1 n2 n3 n4 av (.slice (some ⟨g, 0, none⟩) L c) wv L A (rowCells (xs.set j x)) W := by
  obtain ⟨r, gr⟩ := own_put h.b j x hj
  have hg := h.b2 g rfl
  exact ⟨own_grown h.a gr fun y hy he => by have := h.a2 y hy; injection he with he; omega, r, own_grown h.wt gr fun y hy he => by have := h.w2 y hy; injection he with he; omega,
    h.a2, h.b2, h.w2, h.o12, h.o23, h.o34, Nat.le_trans h.o4 gr.size, h.below.grown gr (Nat.le_trans h.o12 (Nat.le_trans h.o23 (Nat.le_trans h.o34 h.o4))) fun k hk => (h.b.lt k hk).1⟩
structure Keep (w0 w : World) (n1 n2 n3 n4 : Nat) (av bv wv gv hv : Value) (L : Nat) (A B W X Y : List Value) (gn hn : Nat) : Prop where
  t : Trio w0 w n1 n2 n3 n4 av bv wv L A B W
  g : w.ownsRow n1 33 3 gv gn (A ++ X)
  h : w.ownsRow n1 33 3 hv hn (B ++ Y)
  ga : ∀ x, gv.ownBlock = some x → x < n2 ∨ n4 ≤ x
  hb : ∀ x, hv.ownBlock = some x → (n2 ≤ x ∧ x < n3) ∨ n4 ≤ x
  gh : ∀ x, gv.ownBlock = some x → hv.ownBlock ≠ some x
theorem SameBlk.block {v v' : Value} (h : SameBlk v v') : v'.ownBlock = v.ownBlock := by
  obtain ⟨g, n, m, cap, rfl, rfl⟩ := h
  rfl
theorem Trio.keep {w0 w : World} {n1 n2 n3 n4 : Nat} {av bv wv : Value} {L : Nat} {A B W : List Value} (h : Trio w0 w n1 n2 n3 n4 av bv wv L A B W) : Keep w0 w n1 n2 n3 n4 av bv wv av bv L A B W [] [] L L :=
  ⟨h, by rw [List.append_nil]; exact h.a, by rw [List.append_nil]; exact h.b, fun x hx => .inl (h.a2 x hx), fun x hx => .inl (h.b2 x hx), fun x hx he => by have := h.a2 x hx; have := h.b2 x he; omega⟩
theorem Keep.pushG {w0 w w' : World} {n1 n2 n3 n4 : Nat} {av bv wv gv hv gv' : Value} {L : Nat} {A B W X Y us : List Value} {gn hn : Nat} (k : Keep w0 w n1 n2 n3 n4 av bv wv gv hv L A B W X Y gn hn)
    (r1 : w'.ownsRow n1 33 3 gv' (gn + 1) (A ++ X ++ us)) (r2 : w.grownBy w' gv.ownBlock) (r3 : SameBlk gv gv' ∨ (gv'.ownBlock = some (w.heap.size + 1) ∧ w.grownBy w' none)) :
    Keep w0 w' n1 n2 n3 n4 av bv wv gv' hv L A B W (X ++ us) Y (gn + 1) hn := by
  have t := k.t
  have hs : n4 ≤ w.heap.size := t.o4
  have h23 := t.o23
  have h34 := t.o34
  refine ⟨⟨duo_push t.a k.g r1 r2 (r3.imp_right And.right), own_grown t.b r2 fun y hy he => ?_, own_grown t.wt r2 fun y hy he => ?_, t.a2, t.b2, t.w2, t.o12, t.o23, t.o34, Nat.le_trans hs r2.size,
    t.below.grown r2 (by have := t.o12; omega) fun x hx => (k.g.lt x hx).1⟩, by rw [← List.append_assoc]; exact r1, own_grown k.h r2 fun y hy he => ?_, fun x hx => ?_, k.hb, fun x hx he => ?_⟩
  · have := t.b2 y hy; have := k.ga y he.symm; omega
  · have := t.w2 y hy; have := k.ga y he.symm; omega
  · exact k.gh y he.symm hy
  · rcases r3 with r3 | ⟨r3, _⟩
    · exact k.ga x (by rw [← r3.block]; exact hx)
    · rw [r3] at hx; injection hx with hx; right; omega
  · rcases r3 with r3 | ⟨r3, _⟩
    · exact k.gh x (by rw [← r3.block]; exact hx) he
    · rw [r3] at hx; injection hx with hx
      have := (k.h.lt x he).2; omega
theorem Keep.pushH {w0 w w' : World} {n1 n2 n3 n4 : Nat} {av bv wv gv hv hv' : Value} {L : Nat} {A B W X Y us : List Value} {gn hn : Nat} (k : Keep w0 w n1 n2 n3 n4 av bv wv gv hv L A B W X Y gn hn)
    (r1 : w'.ownsRow n1 33 3 hv' (hn + 1) (B ++ Y ++ us)) (r2 : w.grownBy w' hv.ownBlock) (r3 : SameBlk hv hv' ∨ (hv'.ownBlock = some (w.heap.size + 1) ∧ w.grownBy w' none)) :
    Keep w0 w' n1 n2 n3 n4 av bv wv gv hv' L A B W X (Y ++ us) gn (hn + 1) := by
  have t := k.t
  have hs : n4 ≤ w.heap.size := t.o4
  have h23 := t.o23
  have h34 := t.o34
  refine ⟨⟨own_grown t.a r2 fun y hy he => ?_, duo_push t.b k.h r1 r2 (r3.imp_right And.right), own_grown t.wt r2 fun y hy he => ?_, t.a2, t.b2, t.w2, t.o12, t.o23, t.o34, Nat.le_trans hs r2.size,
    t.below.grown r2 (by have := t.o12; omega) fun x hx => (k.h.lt x hx).1⟩, own_grown k.g r2 fun y hy he => ?_, by rw [← List.append_assoc]; exact r1, k.ga, fun x hx => ?_, fun x hx he => ?_⟩
  · have := t.a2 y hy; have := k.hb y he.symm; omega
  · have := t.w2 y hy; have := k.hb y he.symm; omega
  · exact k.gh y hy he.symm
  · rcases r3 with r3 | ⟨r3, _⟩
    · exact k.hb x (by rw [← r3.block]; exact hx)
    · rw [r3] at hx; injection hx with hx; right; omega
  · rcases r3 with r3 | ⟨r3, _⟩
    · exact k.gh x hx (by rw [← r3.block]; exact he)
    · rw [r3] at he; injection he with he
      have := (k.g.lt x hx).2; omega
/-- What append may be given: a nil slice or one that can be read. -/
def SrcAt (w : World) (v : Value) (xs : List Row) : Prop :=
  (v = .slice none 0 0 ∧ xs = []) ∨ ∃ ad c, v = .slice (some ad) xs.length c ∧ ∀ j u, (rowCells xs)[j]? = some u → w.cell? (ad.add j) = some u
theorem own_src {w : World} {base n c : Nat} {ao : Option Addr} {xs : List Row} (h : w.ownsRow base 33 3 (.slice ao n c) n (rowCells xs)) : SrcAt w (.slice ao n c) xs := by
  have hn := (own_rowAt h).1
  rcases h.2 with ⟨hv, h0⟩ | ⟨g, cap, cur, hv, _⟩
  · exact .inl ⟨hv, List.eq_nil_of_length_eq_zero (by omega)⟩
  · rw [hv] at h ⊢
    exact .inr ⟨⟨g, 0, none⟩, cap, by rw [hn], h.cells rfl⟩
theorem SrcAt.below {w w' : World} {v : Value} {xs : List Row} (h : SrcAt w v xs) (hb : Below w.heap.size w w') : SrcAt w' v xs := by
  rcases h with h | ⟨ad, c, h1, h2⟩
  · exact .inl h
  · exact .inr ⟨ad, c, h1, fun j u hu => by have h3 := h2 j u hu; rw [hb.cell (cell_in h3)]; exact h3⟩
/-- The beginning of a row. -/
theorem own_take {w : World} {base g n m c : Nat} {e : TypeId} {size : Nat} {A X : List Value} (h : w.ownsRow base e size (.slice (some ⟨g, 0, none⟩) n c) n (A ++ X)) (hm : m ≤ n) (hA : A.length = m * size) : w.ownsRow base e size (.slice (some ⟨g, 0, none⟩) m c) m A := by
  refine ⟨hA, ?_⟩
  rcases h.2 with ⟨hv, _⟩ | ⟨g', cap, cur, hv, d1, d2, d3, d4, d5, d6⟩
  · cases hv
  · simp only [Value.slice.injEq, Option.some.injEq, Addr.mk.injEq, and_true, true_and] at hv
    obtain ⟨rfl, rfl⟩ := hv
    refine .inr ⟨g, c, cur, rfl, d1, d2, Nat.le_trans hm d3, d4, d5, ?_⟩
    have h1 := congrArg (List.take (m * size)) d6
    rw [List.take_take, Nat.min_eq_left (Nat.mul_le_mul_right _ hm), ← hA, List.take_left] at h1
    rw [← hA]
    exact h1
theorem own_cap {w : World} {base g n c : Nat} {e : TypeId} {size : Nat} {xs : List Value} (h : w.ownsRow base e size (.slice (some ⟨g, 0, none⟩) n c) n xs) : n ≤ c ∧ c ≤ maxLen := by
  rcases h.2 with ⟨hv, _⟩ | ⟨g', cap, cur, hv, d1, d2, d3, d4, d5, d6⟩
  · cases hv
  · simp only [Value.slice.injEq, Option.some.injEq, Addr.mk.injEq, and_true, true_and] at hv
    obtain ⟨rfl, rfl⟩ := hv
    exact ⟨d3, d4⟩
/-- 'out = append(out, x...)'. -/
theorem wpList_append_src {P : Program} {w : World} {ops : Array Oper} {rest : List Oper} {o : Oper} {a : Act} {Q : Exit → Act → World → Prop}
    (hg : o.guard = none) (s x : Operand) (t : TypeId) (hop : o.op = Op.call { callee := Callee.builtin Builtin.append, args := #[s, x], argTypes := #[t, t] })
    (base : Nat) (e : TypeId) (z : Value) (bytes : Nat) (hinfo : (P.info? e).map (fun i => (i.zero, i.size, i.bytes)) = some (some z, 3, bytes)) (h1 : P.underlying t = some (.slice e)) (hzs : z.cells.size = 3)
    (v : Value) (n : Nat) (xs : List Value) (hs : a.eval s = v) (hown : w.ownsRow base e 3 v n xs) (u : Value) (rs : List Row) (hx : a.eval x = u) (hsrc : SrcAt w u rs)
    (hmax : n + rs.length ≤ maxLen) (hb : (n + rs.length) * bytes ≤ 140737488355328) (hbase : base ≤ w.heap.size)
    (hK : ∀ v' w', w'.ownsRow base e 3 v' (n + rs.length) (xs ++ rowCells rs) → w.grownBy w' v.ownBlock → wpList P ops Q rest (a.put o.dst v') w') :
    wpList P ops Q (o :: rest) a w := by
  obtain ⟨i, hi, hz, hsi, hby⟩ := info_parts hinfo
  rcases hsrc with ⟨rfl, rfl⟩ | ⟨ad, c, rfl, hc⟩
  · refine wpList_plain hg fun K hKK => ?_
    have hr := run_append_owned_none (P := P) w base t o.type e i 3 h1 hi v n xs hown
    unfold Oper.wp execOp
    simp only [hop, resolve, invoke, builtin, Sem.run_bind, Sem.run_pure, Result.andThen_ok, List.map_toArray, List.map_cons, List.map_nil, hs, hx, hr]
    refine hKK _ _ (hK v w ?_ ⟨rfl, rfl, rfl, Nat.le_refl _, fun _ _ _ => rfl⟩)
    simpa [rowCells] using hown
  · exact wpList_append_own w hg s x t hop base e i z 3 bytes h1 hi hz hsi hby hzs (by omega) v n xs hs hown ad rs.length c (rowCells rs) hx (rowCells_len rs) hc (rowCells_one rs) hmax hb hbase fun v' w' ho hgr _ => hK v' w' ho hgr
theorem TokAt.row {w : World} {ao : Option Addr} {n c : Nat} {xs : List Row} (h : TokAt w (.slice ao n c) xs) : n = xs.length ∧ ∀ j (h : j < xs.length), ∃ g o, ao = some ⟨g, o, none⟩ ∧ g < w.heap.size ∧ w.cell? ⟨g, o + j * 3, none⟩ = some (.int .i64 xs[j].1) ∧ w.cell? ⟨g, o + j * 3 + 1, none⟩ = some (.string xs[j].2.1) ∧ w.cell? ⟨g, o + j * 3 + 2, none⟩ = some (.int .i64 xs[j].2.2) := by
  obtain ⟨ao', c', he, hc⟩ := h
  injection he with h1 h2 h3
  subst h1
  exact ⟨h2, hc⟩
set_option maxRecDepth 100000 in
set_option maxHeartbeats 2000000 in
theorem law_sameR (w : World) (ao bo : Option Addr) (na nb ca cb : Nat) (xs : List Row) (ha : TokAt w (.slice ao na ca) xs) (hb : TokAt w (.slice bo nb cb) xs) (hn : xs.length ≤ 1099511627776) :
    Calls Tryz.prog 13 #[.slice ao na ca, .slice bo nb cb] w fun e w' => e = .returned (.bool true) ∧ ∃ d, w' = w.drewN d := by
  obtain ⟨rfl, ha0⟩ := ha.row
  obtain ⟨rfl, hb0⟩ := hb.row
  have HA := Lib.hid ha0
  have HB := Lib.hid hb0
  clear ha hb ha0 hb0
  go_enter Tryz.func13, Tryz.ntmps13
  go_wp2_with fail
  go_loopw [5] (fun t5 wr => ∃ (j d : Nat), Hid (j ≤ xs.length ∧ wr = w.drewN d) ∧ t5 = .int .i64 (j : Int)) (fun t5 _ => xs.length - (intOf t5).toNat)
  case atStart => exact ⟨0, 0, Lib.hid ⟨Nat.zero_le _, rfl⟩, rfl⟩
  case round =>
    obtain ⟨j, d, hI, rfl⟩ := hrel
    have hw := hI.out.2
    subst hw
    by_cases hj : j < xs.length
    · have p2 : ((j : Int) < (xs.length : Int)) = True := eq_true (by omega)
      obtain ⟨g, o, rfl, hg, c0, c1, c2⟩ := HA.out j hj
      obtain ⟨g', o', rfl, hg', d0, d1, d2⟩ := HB.out j hj
      generalize xs[j].1 = K at c0 d0
      generalize xs[j].2.1 = X at c1 d1
      generalize xs[j].2.2 = P at c2 d2
      go_wp2_with fail
      go_quiet (fail)
      go_wp2_with fail
      exact ⟨⟨j + 1, d + nq, Lib.hid ⟨hj, rfl⟩, rfl⟩, meas_j hj⟩
    · have p2 : ((j : Int) < (xs.length : Int)) = False := eq_false (by omega)
      go_wp2_with fail
      go_ret
      exact ⟨rfl, d, rfl⟩
end Go.Proofs.YtpkeonafcldkhaaGreatDoor
/- weirlaw11: LexKeeps. -/
set_option linter.unusedVariables false
set_option linter.unusedSimpArgs false
namespace Go.Proofs.YtpkeonafcldkhaaGreatDoor
open Go.RowKit

def r91 : Row := (91, ⟨#[]⟩, 0)
def r92 : Row := (92, ⟨#[]⟩, 0)
def r93 : Row := (93, ⟨#[]⟩, 0)
def r94 : Row := (94, ⟨#[]⟩, 0)
/-- The first k rows written over. -/
def mark (r : Row) (k : Nat) (rs : List Row) : List Row := List.replicate k r ++ rs.drop k
theorem mark_len {r : Row} {k : Nat} {rs : List Row} (h : k ≤ rs.length) : (mark r k rs).length = rs.length := by simp [mark]; omega
theorem mark_set {r : Row} {k : Nat} {rs : List Row} (h : k < rs.length) : (mark r k rs).set k r = mark r (k + 1) rs := by
  unfold mark
  rw [List.set_append_right _ _ (by simp), List.length_replicate, Nat.sub_self, List.drop_eq_getElem_cons h, List.set_cons_zero, List.replicate_succ']
  simp
theorem mark_zero (r : Row) (rs : List Row) : mark r 0 rs = rs := by simp [mark]
theorem mark_all (r : Row) (rs : List Row) : mark r rs.length rs = List.replicate rs.length r := by simp [mark]
theorem own_kind {w : World} {base n c m : Nat} {e : TypeId} {ao : Option Addr} {xs : List Row} {r : Row} (h : w.ownsRow base e 3 (.slice ao n c) m (rowCells xs)) (hm : m = n) (j : Nat) (hj : xs[j]? = some r) :
    ∃ g, ao = some ⟨g, 0, none⟩ ∧ g < w.heap.size ∧ w.cell? ⟨g, j * 3, none⟩ = some (.int .i64 r.1) := by
  subst hm
  obtain ⟨hj, hr⟩ := List.getElem?_eq_some_iff.1 hj
  have hn : m = xs.length := by have h1 := h.1; rw [rowCells_len] at h1; omega
  obtain ⟨g, rfl, _, hg⟩ := own_some h (by omega)
  refine ⟨g, rfl, hg, ?_⟩
  rw [h.cellAt _ (by omega), (rowCells_at xs j hj).1, hr]
theorem own_tokRow {w : World} {base g n c : Nat} {e : TypeId} {xs : List Row} (h : w.ownsRow base e 3 (.slice (some ⟨g, 0, none⟩) n c) n (rowCells xs)) : TokRow w g 0 xs := by
  have hn : n = xs.length := by have h1 := h.1; rw [rowCells_len] at h1; omega
  refine ⟨(h.lt g rfl).2, fun j hj => ?_⟩
  obtain ⟨a, b, d⟩ := rowCells_at xs j hj
  rw [Nat.zero_add, h.cellAt _ (by omega), h.cellAt _ (by omega), h.cellAt _ (by omega)]
  exact ⟨a, b, d⟩
def zrow (x : Row) : Row := (x.1, ⟨#[122]⟩ ++ x.2.1, x.2.2)
/-- The first k rows with a z ahead of their texts. -/
def zpre (k : Nat) (zs : List Row) : List Row := (zs.take k).map zrow ++ zs.drop k
theorem zpre_len {k : Nat} {zs : List Row} (h : k ≤ zs.length) : (zpre k zs).length = zs.length := by simp [zpre]; omega
theorem zpre_at {k : Nat} {zs : List Row} (h : k < zs.length) : (zpre k zs)[k]? = some zs[k] := by
  unfold zpre
  rw [List.getElem?_append_right (by simp; omega), List.length_map, List.length_take, Nat.min_eq_left (Nat.le_of_lt h), Nat.sub_self, List.getElem?_drop, Nat.add_zero, List.getElem?_eq_getElem h]
theorem zpre_set {k : Nat} {zs : List Row} (h : k < zs.length) : (zpre k zs).set k (zrow zs[k]) = zpre (k + 1) zs := by
  unfold zpre
  rw [List.set_append_right _ _ (by simp; omega), List.length_map, List.length_take, Nat.min_eq_left (Nat.le_of_lt h), Nat.sub_self, List.drop_eq_getElem_cons h, List.set_cons_zero, List.take_succ_eq_append_getElem h, List.map_append]
  simp
theorem zpre_all (zs : List Row) : zpre zs.length zs = zs.map zrow := by simp [zpre]
theorem zpre_zero (zs : List Row) : zpre 0 zs = zs := by simp [zpre]
theorem zrow_text (x : Row) : (zrow x).2.1.data.toList = 122 :: x.2.1.data.toList := by
  show (⟨#[122]⟩ ++ x.2.1 : ByteArray).data.toList = _
  simp
theorem joinL_z : ∀ zs : List Row, (joinL (textsOf (zs.map zrow))).length = (joinL (textsOf zs)).length + zs.length
  | [] => rfl
  | [x] => by simp [textsOf, joinL, zrow_text]
  | x :: y :: r => by
    have ih := joinL_z (y :: r)
    simp only [textsOf, List.map_cons, joinL, List.length_append, List.length_cons, zrow_text] at ih ⊢
    omega
def r95 : Row := (95, ⟨#[]⟩, 0)
def r96 : Row := (96, ⟨#[]⟩, 0)
set_option maxRecDepth 100000 in
set_option maxHeartbeats 4000000 in
theorem law_LexKeeps {T : Nat → World → Prop} (hT : NumT (fun _ => True) T) (w : World) (a : ByteArray) (io : Option Addr) (ni ci : Nat) (zs : List Row) (ha : a.size ≤ 1048576) (hz : SrcAt w (.slice io ni ci) zs) (hza : TokAt w (.slice io ni ci) zs) (hzl : zs.length ≤ 1048576) (hzj : (joinL (textsOf zs)).length + zs.length ≤ 1048576) (hzs : ∀ x ∈ zs, x.2.1.size ≤ 1048576) (hTw : T w.heap.size w) :
    Calls Tryz.prog 7 #[.string a, .slice io ni ci] w fun e w' => e = .returned (.bool true) ∧ Below w.heap.size w w' := by
  have HT := Lib.hid hTw
  have HZ := Lib.hid hz
  have HZA := Lib.hid hza
  have HZS := Lib.hid hzs
  have HZJ := Lib.hid hzj
  obtain rfl : ni = zs.length := hza.row.1
  clear hTw hz hza hzs hzj
  go_enter Tryz.func7, Tryz.ntmps7
  go_wp2_with fail
  refine (law_alive hT w HT.out).mono ?_
  rintro e w1 ⟨rfl, hb1⟩
  have HT1 := Lib.hid (hT.mono (hT.keep HT.out hb1) hb1.size)
  have HB1 := Lib.hid hb1
  clear hb1
  go_wp2_with fail
  refine (lex_Scan hT _ a (by omega) (fun _ _ _ => trivial) HT1.out).mono ?_
  intro e w2 hp
  obtain ⟨ao, ca, rfl, hoa, hta, hb2⟩ := hp.open
  have HT2 := Lib.hid (hT.mono (hT.keep HT1.out hb2) hb2.size)
  have HB2 := Lib.hid (HB1.out.trans (hb2.mono HB1.out.size))
  obtain ⟨R, hR⟩ : ∃ R, R = scanAll a.data.toList := ⟨_, rfl⟩
  have hL : (outToks R).length ≤ 1048576 := by
    have := (scanAll_len a.data.toList).1
    rw [← hR, len_data] at this
    unfold outToks
    split
    · omega
    · exact Nat.zero_le _
  have hR' := hR
  obtain ⟨rs, hrs⟩ : ∃ rs, rs = (outToks R).map tokV := ⟨_, rfl⟩
  have hrl : (outToks R).length = rs.length := by rw [hrs]; simp
  have hrc : toksCells (outToks R) = rowCells rs := by rw [hrs, rowCells_toks]
  rw [← hR, hrl] at hoa hta ⊢
  rw [hrc] at hoa
  rw [← hrs] at hta
  rw [hrl] at hL
  have HOA := Lib.hid hoa
  have HTA := Lib.hid hta
  have HR := Lib.hid (And.intro hR (And.intro hrs (And.intro hrl hrc)))
  clear hoa hta hp hR hR' hrs hrl hrc
  go_wp2_with fail
  refine (lex_Scan hT _ a (by omega) (fun _ _ _ => trivial) HT2.out).mono ?_
  intro e w3 hp
  obtain ⟨bo, cb, rfl, hob, htb, hb3⟩ := hp.open
  rw [← HR.out.1, HR.out.2.2.1] at hob htb ⊢
  rw [HR.out.2.2.2] at hob
  rw [← HR.out.2.1] at htb
  have HT3 := Lib.hid (hT.mono (hT.keep HT2.out hb3) hb3.size)
  have HOA3 := Lib.hid (own_belowE HOA.out hb3)
  have HOB3 := Lib.hid hob
  have HB3 := Lib.hid (HB2.out.trans (hb3.mono HB2.out.size))
  have HTA3 := Lib.hid (HTA.out.below hb3)
  have HTB3 := Lib.hid htb
  have hs12 : w1.heap.size ≤ w2.heap.size := hb2.size
  have hs23 : w2.heap.size ≤ w3.heap.size := hb3.size
  have ha2 : ∀ x, (Value.slice ao rs.length ca).ownBlock = some x → x < w2.heap.size := fun x hx => (HOA.out.lt x hx).2
  have HA2 := Lib.hid ha2
  have HS := Lib.hid (And.intro hs12 hs23)
  clear hob htb hb3 hp HTA HOA ha2 hs12 hs23 hb2
  have HSAME := Lib.hid (law_sameR w3 ao bo _ _ ca cb rs HTA3.out HTB3.out (by omega))
  go_wp2_with fail
  refine HSAME.out.mono ?_
  rintro e w4 ⟨rfl, d4, rfl⟩
  have hb4 := below_drewN (Below.refl w3.heap.size w3) d4
  have HT4 := Lib.hid (hT.mono (hT.keep HT3.out hb4) hb4.size)
  have HB4 := Lib.hid (HB3.out.trans (hb4.mono HB3.out.size))
  have HOA4 := Lib.hid (own_belowE HOA3.out hb4)
  have HOB4 := Lib.hid (own_belowE HOB3.out hb4)
  have hsz : (w3.drewN d4).heap.size = w3.heap.size := rfl
  have HSZ := Lib.hid hsz
  clear hb4 HSAME HT3 HB3 HOA3 HOB3 HTA3 HTB3 hsz
  generalize w3.drewN d4 = w4 at *
  have hb41 := (Below.refl w4.heap.size w4).alloc (Nat.le_refl _) (.cells #[] 33)
  have HOE := Lib.hid (show (w4.alloc (.cells #[] 33)).ownsRow w4.heap.size 33 3 (.slice (some ⟨w4.heap.size, 0, none⟩) 0 0) 0 [] from World.ownsRow_lit (e := 33) (size := 3) w4 #[] 0 (Nat.le_refl _) (Nat.zero_le _) rfl)
  have HSR := Lib.hid (own_src (own_belowE HOA4.out hb41))
  have HB41 := Lib.hid hb41
  clear hb41
  go_wp2_with (at_builtin; refine wpList_append_src rfl (.tmp 47) (.tmp 48) 24 rfl w4.heap.size 33 (.agg #[.int .i64 0, .string ⟨#[]⟩, .int .i64 0]) 32 info_tok Tryz.underlying24 rfl _ _ _ rfl HOE.out _ rs rfl HSR.out (by unfold maxLen; omega) (by omega) HB41.out.size ?_)
  intro v5 w5 hown5 hgr5
  have hb5 := HB41.out.grown hgr5 HB41.out.size (fun g hg => (HOE.out.lt g hg).1)
  obtain ⟨wo, cw, rfl⟩ := own_form2 hown5
  have htrio : Trio w w5 w.heap.size w2.heap.size w4.heap.size w5.heap.size (.slice ao rs.length ca) (.slice bo rs.length cb) (.slice wo rs.length cw) rs.length (rowCells rs) (rowCells rs) (rowCells rs) := by
    have h23 := HS.out.2
    rw [← HSZ.out] at h23
    have h2 := HB2.out.size
    exact ⟨own_mono (own_belowE HOA4.out hb5) HB1.out.size, own_mono (own_belowE HOB4.out hb5) h2, own_mono hown5 (Nat.le_trans h2 h23), HA2.out, fun x hx => ⟨(HOB4.out.lt x hx).1, (HOB4.out.lt x hx).2⟩, fun x hx => hown5.lt x hx, h2, h23, hb5.size, Nat.le_refl _, HB4.out.trans (hb5.mono HB4.out.size)⟩
  have HTR := Lib.hid htrio
  clear hown5 hgr5 hb5 htrio HOE HSR HB41
  have HTR0 := Lib.hid (show Trio w w5 w.heap.size w2.heap.size w4.heap.size w5.heap.size (.slice ao rs.length ca) (.slice bo rs.length cb) (.slice wo rs.length cw) rs.length (rowCells (mark r91 0 rs)) (rowCells (mark r92 0 rs)) (rowCells rs) by rw [mark_zero, mark_zero]; exact HTR.out)
  go_wp2_with fail
  go_loopw [12] (fun t12 wr => ∃ k : Nat, Hid (k ≤ rs.length) ∧ t12 = .int .i64 (k : Int) ∧ Hid (Trio w wr w.heap.size w2.heap.size w4.heap.size w5.heap.size (.slice ao rs.length ca) (.slice bo rs.length cb) (.slice wo rs.length cw) rs.length (rowCells (mark r91 k rs)) (rowCells (mark r92 k rs)) (rowCells rs))) (fun t12 _ => rs.length - (intOf t12).toNat)
  case atStart => exact ⟨0, Lib.hid (Nat.zero_le _), rfl, HTR0⟩
  case round =>
    obtain ⟨k, hk, rfl, hB⟩ := hrel
    by_cases hi : k < rs.length
    · have p1 : ((k : Int) < (rs.length : Int)) = True := eq_true (by omega)
      obtain ⟨ga, rfl, hga1, hga2⟩ := own_some hB.out.a (by omega)
      obtain ⟨gb, rfl, hgb1, hgb2⟩ := own_some hB.out.b (by omega)
      have ml := mark_len (r := r91) hk.out
      have ml2 := mark_len (r := r92) hk.out
      have hA := hB.out.putA k r91 (by omega)
      have hB2 := hA.putB k r92 (by omega)
      rw [mark_set hi, mark_set hi] at hB2
      have fa : ∀ j, wr.frozen? ⟨ga, j, none⟩ = false := fun j => hB.out.a.frozenAt j
      have fb : ∀ j, wr.frozen? ⟨gb, j, none⟩ = false := fun j => hB.out.b.frozenAt j
      have hne : ga ≠ gb := fun he => by have h1 := hB.out.a2 ga rfl; have h2 := hB.out.b2 gb rfl; omega
      have hne' : gb ≠ ga := fun he => hne he.symm
      have cellA : ∀ j, j < rs.length * 3 → ∃ v, wr.cell? ⟨ga, j, none⟩ = some v := fun j hj => by
        rw [hB.out.a.cellAt j hj]
        have := rowCells_len (mark r91 k rs)
        exact ⟨_, List.getElem?_eq_getElem (by omega)⟩
      have cellB : ∀ j, j < rs.length * 3 → ∃ v, wr.cell? ⟨gb, j, none⟩ = some v := fun j hj => by
        rw [hB.out.b.cellAt j hj]
        have := rowCells_len (mark r92 k rs)
        exact ⟨_, List.getElem?_eq_getElem (by omega)⟩
      obtain ⟨va0, a0⟩ := cellA (k * 3) (by omega)
      obtain ⟨va1, a1⟩ := cellA (k * 3 + 1) (by omega)
      obtain ⟨va2, a2⟩ := cellA (k * 3 + 2) (by omega)
      obtain ⟨vb0, b0⟩ := cellB (k * 3) (by omega)
      obtain ⟨vb1, b1⟩ := cellB (k * 3 + 1) (by omega)
      obtain ⟨vb2, b2⟩ := cellB (k * 3 + 2) (by omega)
      have HN := Lib.hid hB2
      clear hA hB2 ml ml2 cellA cellB
      go_wp2_with fail
      exact ⟨⟨k + 1, Lib.hid hi, rfl, HN⟩, meas_j hi⟩
    · have hke : k = rs.length := by have := hk.out; omega
      subst hke
      have hkeep := hB.out.keep
      rw [mark_all, mark_all] at hkeep
      obtain ⟨A, hA⟩ : ∃ A, A = List.replicate rs.length r91 := ⟨_, rfl⟩
      obtain ⟨B, hBB⟩ : ∃ B, B = List.replicate rs.length r92 := ⟨_, rfl⟩
      rw [← hA, ← hBB] at hkeep
      have HAB := Lib.hid (And.intro hA hBB)
      have HK0 := Lib.hid hkeep
      clear hkeep hA hBB hB HTR HTR0 HS HSZ HA2 HOA4 HOB4 HT1 HT2 HT4
      generalize w2.heap.size = n2 at HK0
      generalize w4.heap.size = n3 at HK0
      generalize w5.heap.size = n4 at HK0
      have p1 : ((rs.length : Int) < (rs.length : Int)) = False := eq_false (by omega)
      go_wp2_with fail
      go_loopw [13, 14, 15] (fun t13 t14 t15 wx => ∃ n : Nat, Hid (n ≤ 20) ∧ t15 = .int .i64 (n : Int) ∧ Hid (Keep w wx w.heap.size n2 n3 n4 (.slice ao rs.length ca) (.slice bo rs.length cb) (.slice wo rs.length cw) t13 t14 rs.length (rowCells A) (rowCells B) (rowCells rs) (rowCells (List.replicate n r93)) (rowCells (List.replicate n r94)) (rs.length + n) (rs.length + n))) (fun _ _ t15 _ => 20 - (intOf t15).toNat)
      case atStart => exact ⟨0, Lib.hid (Nat.zero_le _), rfl, HK0⟩
      case round =>
        obtain ⟨n, hn, rfl, hB⟩ := hrel
        obtain ⟨g0, gc, rfl⟩ := own_form2 hB.out.g
        obtain ⟨h0, hc, rfl⟩ := own_form2 hB.out.h
        by_cases hi : n < 20
        · have p1 : ((n : Int) < 20) = True := eq_true (by omega)
          go_wp2_with (at_builtin; refine wpList_push2 rfl (.tmp 70) (.tmp 72) 24 rfl w.heap.size 33 (.agg #[.int .i64 0, .string ⟨#[]⟩, .int .i64 0]) 3 32 info_tok Tryz.underlying24 rfl (by omega) _ _ _ rfl hB.out.g [.int .i64 93, .string ⟨#[]⟩, .int .i64 0] rfl (by rfl) (by intro u hu; simp at hu; rcases hu with rfl | rfl | rfl <;> rfl) (by unfold maxLen; omega) (by omega) hB.out.t.below.size ?_)
          intro gv' w6 r1 r2 r3
          rw [← List.append_assoc] at r1
          have HK6 := Lib.hid (hB.out.pushG r1 r2 r3)
          clear r1 r2 r3 hB
          obtain ⟨g1, gc1, rfl⟩ := own_form2 HK6.out.g
          go_wp2_with (at_builtin; refine wpList_push2 rfl (.tmp 74) (.tmp 76) 24 rfl w.heap.size 33 (.agg #[.int .i64 0, .string ⟨#[]⟩, .int .i64 0]) 3 32 info_tok Tryz.underlying24 rfl (by omega) _ _ _ rfl HK6.out.h [.int .i64 94, .string ⟨#[]⟩, .int .i64 0] rfl (by rfl) (by intro u hu; simp at hu; rcases hu with rfl | rfl | rfl <;> rfl) (by unfold maxLen; omega) (by omega) HK6.out.t.below.size ?_)
          intro hv' w7 r1 r2 r3
          rw [← List.append_assoc] at r1
          have hK7 := HK6.out.pushH r1 r2 r3
          have e93 : rowCells (List.replicate n r93) ++ [.int .i64 93, .string ⟨#[]⟩, .int .i64 0] = rowCells (List.replicate (n + 1) r93) := by
            rw [List.replicate_succ', rowCells_append]; rfl
          have e94 : rowCells (List.replicate n r94) ++ [.int .i64 94, .string ⟨#[]⟩, .int .i64 0] = rowCells (List.replicate (n + 1) r94) := by
            rw [List.replicate_succ', rowCells_append]; rfl
          rw [e93, e94] at hK7
          have HK7 := Lib.hid hK7
          clear r1 r2 r3 hK7 HK6 e93 e94
          obtain ⟨h1, hc1, rfl⟩ := own_form2 HK7.out.h
          go_wp2_with fail
          exact ⟨⟨n + 1, Lib.hid hi, rfl, HK7⟩, meas_j hi⟩
        · have hke : n = 20 := by have := hn.out; omega
          subst hke
          have p1 : (((20 : Nat) : Int) < 20) = False := eq_false (by omega)
          obtain ⟨e91, e92⟩ := HAB.out
          have hKa := hB.out.t.a
          have hKb := hB.out.t.b
          have hKg := hB.out.g
          have hKh := hB.out.h
          rw [← rowCells_append] at hKg hKh
          have HKA := Lib.hid hKa
          have HKB := Lib.hid hKb
          have HKG := Lib.hid hKg
          have HKH := Lib.hid hKh
          have hA1 : ∀ j, j < rs.length → A[j]? = some r91 := fun j hj => by rw [e91, List.getElem?_replicate, if_pos hj]
          have hB1 : ∀ j, j < rs.length → B[j]? = some r92 := fun j hj => by rw [e92, List.getElem?_replicate, if_pos hj]
          have hAl : A.length = rs.length := by rw [e91, List.length_replicate]
          have hBl : B.length = rs.length := by rw [e92, List.length_replicate]
          have hG1 : ∀ j, j < rs.length → (A ++ List.replicate 20 r93)[j]? = some r91 := fun j hj => by rw [List.getElem?_append_left (by omega)]; exact hA1 j hj
          have hH1 : ∀ j, j < rs.length → (B ++ List.replicate 20 r94)[j]? = some r92 := fun j hj => by rw [List.getElem?_append_left (by omega)]; exact hB1 j hj
          have hG2 : ∀ j, rs.length ≤ j → j < rs.length + 20 → (A ++ List.replicate 20 r93)[j]? = some r93 := fun j hj hj2 => by rw [List.getElem?_append_right (by omega), List.getElem?_replicate, if_pos (by omega)]
          have hH2 : ∀ j, rs.length ≤ j → j < rs.length + 20 → (B ++ List.replicate 20 r94)[j]? = some r94 := fun j hj hj2 => by rw [List.getElem?_append_right (by omega), List.getElem?_replicate, if_pos (by omega)]
          have HE := Lib.hid (And.intro hA1 (And.intro hB1 (And.intro hG1 (And.intro hH1 (And.intro hG2 hH2)))))
          have HTR := Lib.hid hB.out.t
          clear hKa hKb hKg hKh hA1 hB1 hG1 hH1 hG2 hH2 hAl hBl e91 e92 HK0 hB
          go_wp2_with fail
          obtain ⟨wz, hwz⟩ : ∃ wz, wz = wr := ⟨_, rfl⟩
          rw [← hwz] at HKA HKB HKG HKH HTR ⊢
          clear hwz
          go_loopw [16] (fun t16 wx => ∃ k : Nat, Hid (k ≤ rs.length ∧ wx = wz) ∧ t16 = .int .i64 (k : Int)) (fun t16 _ => rs.length - (intOf t16).toNat)
          case atStart => exact ⟨0, Lib.hid ⟨Nat.zero_le _, rfl⟩, rfl⟩
          case round =>
            obtain ⟨k, hI, rfl⟩ := hrel
            have hw := hI.out.2
            subst hw
            by_cases hi : k < rs.length
            · have p1 : ((k : Int) < (rs.length : Int)) = True := eq_true (by omega)
              obtain ⟨ga, rfl, ga2, qa⟩ := own_kind HKA.out rfl k (HE.out.1 k hi)
              obtain ⟨gb, rfl, gb2, qb⟩ := own_kind HKB.out rfl k (HE.out.2.1 k hi)
              obtain ⟨gg, rfl, gg2, qg⟩ := own_kind HKG.out rfl k (HE.out.2.2.1 k hi)
              obtain ⟨gh, rfl, gh2, qh⟩ := own_kind HKH.out rfl k (HE.out.2.2.2.1 k hi)
              change _ = some (Value.int .i64 91) at qa qg
              change _ = some (Value.int .i64 92) at qb qh
              go_wp2_with fail
              exact ⟨⟨k + 1, Lib.hid ⟨hi, trivial⟩, rfl⟩, meas_j hi⟩
            · have hke : k = rs.length := by have := hI.out.1; omega
              subst hke
              have p1 : ((rs.length : Int) < (rs.length : Int)) = False := eq_false (by omega)
              go_wp2_with fail
              go_loopw [17] (fun t17 wx => ∃ k : Nat, Hid (rs.length ≤ k ∧ k ≤ rs.length + 20 ∧ wx = wr) ∧ t17 = .int .i64 (k : Int)) (fun t17 _ => rs.length + 20 - (intOf t17).toNat)
              case atStart => exact ⟨rs.length, Lib.hid ⟨Nat.le_refl _, Nat.le_add_right _ _, rfl⟩, rfl⟩
              case round =>
                obtain ⟨k, hI2, rfl⟩ := hrel
                have hw := hI2.out.2.2
                subst hw
                by_cases hi : k < rs.length + 20
                · have p1 : ((k : Int) < ((rs.length + 20 : Nat) : Int)) = True := eq_true (by omega)
                  have p2 : ((k : Int) < (rs.length : Int) + 20) = True := eq_true (by omega)
                  obtain ⟨gg, rfl, gg2, qg⟩ := own_kind HKG.out rfl k (HE.out.2.2.2.2.1 k hI2.out.1 hi)
                  obtain ⟨gh, rfl, gh2, qh⟩ := own_kind HKH.out rfl k (HE.out.2.2.2.2.2 k hI2.out.1 hi)
                  change _ = some (Value.int .i64 93) at qg
                  change _ = some (Value.int .i64 94) at qh
                  go_wp2_with fail
                  exact ⟨⟨k + 1, Lib.hid ⟨Nat.le_succ_of_le hI2.out.1, hi, trivial⟩, rfl⟩, meas_j hi⟩
                · have hke : k = rs.length + 20 := by have := hI2.out.2.1; omega
                  subst hke
                  have p1 : (((rs.length + 20 : Nat) : Int) < ((rs.length + 20 : Nat) : Int)) = False := eq_false (by omega)
                  have p2 : ((rs.length : Int) + 20 < (rs.length : Int) + 20) = False := eq_false (by omega)
                  have HT6 := Lib.hid (hT.mono (hT.keep HT.out HTR.out.below) HTR.out.below.size)
                  go_wp2_with fail
                  refine (lex_Scan hT _ a (by omega) (fun _ _ _ => trivial) HT6.out).mono ?_
                  intro e w7 hp
                  obtain ⟨co, cc, rfl, hoc, htc, hb7⟩ := hp.open
                  rw [← HR.out.1, HR.out.2.2.1] at htc ⊢
                  rw [← HR.out.2.1] at htc
                  have hww := (own_rowAt (own_belowE HTR.out.wt hb7)).2
                  have HB7 := Lib.hid (HTR.out.below.trans (hb7.mono HTR.out.below.size))
                  have HSAME := Lib.hid (law_sameR w7 co wo _ _ cc cw rs htc hww (by omega))
                  clear hoc htc hww hb7 hp HTR HKA HKB HKG HKH HE HT6
                  go_wp2_with fail
                  refine HSAME.out.mono ?_
                  rintro e w8 ⟨rfl, d8, rfl⟩
                  have HB8 := Lib.hid (below_drewN HB7.out d8)
                  clear HB7 HSAME
                  generalize w7.drewN d8 = w8 at HB8 ⊢
                  have hb81 := (Below.refl w8.heap.size w8).alloc (Nat.le_refl _) (.cells #[] 33)
                  have HOE := Lib.hid (show (w8.alloc (.cells #[] 33)).ownsRow w8.heap.size 33 3 (.slice (some ⟨w8.heap.size, 0, none⟩) 0 0) 0 [] from World.ownsRow_lit (e := 33) (size := 3) w8 #[] 0 (Nat.le_refl _) (Nat.zero_le _) rfl)
                  have HSR := Lib.hid (HZ.out.below (HB8.out.trans (hb81.mono HB8.out.size)))
                  have HB81 := Lib.hid hb81
                  clear hb81
                  go_wp2_with (at_builtin; refine wpList_append_src rfl (.tmp 151) (.tmp 152) 24 rfl w8.heap.size 33 (.agg #[.int .i64 0, .string ⟨#[]⟩, .int .i64 0]) 32 info_tok Tryz.underlying24 rfl _ _ _ rfl HOE.out _ zs rfl HSR.out (by unfold maxLen; omega) (by omega) HB81.out.size ?_)
                  intro v9 w9 hown9 hgr9
                  have hb9 := HB81.out.grown hgr9 HB81.out.size (fun g hg => (HOE.out.lt g hg).1)
                  have HO9 := Lib.hid hown9
                  have HB9 := Lib.hid hb9
                  clear hown9 hgr9 hb9 HOE HSR HB81
                  obtain ⟨fo, fc, rfl⟩ := own_form2 HO9.out
                  go_wp2_with (at_builtin; refine wpList_pushN rfl (.tmp 154) (.tmp 157) 24 rfl w8.heap.size 33 (.agg #[.int .i64 0, .string ⟨#[]⟩, .int .i64 0]) 3 32 info_tok Tryz.underlying24 rfl (by omega) _ _ _ rfl HO9.out 2 [.int .i64 95, .string ⟨#[]⟩, .int .i64 0, .int .i64 96, .string ⟨#[]⟩, .int .i64 0] rfl (by rfl) (by intro u hu; simp at hu; rcases hu with rfl | rfl | rfl | rfl | rfl | rfl <;> rfl) (by unfold maxLen; omega) (by omega) HB9.out.size ?_)
                  intro v10 w10 hown10 hgr10
                  have hb10 := HB9.out.grown hgr10 HB9.out.size (fun g hg => (HO9.out.lt g hg).1)
                  obtain ⟨fo2, fc2, rfl⟩ := own_form2 hown10
                  obtain ⟨gf, rfl, gf1, gf2⟩ := own_some hown10 (by omega)
                  have e2 : rowCells zs ++ [.int .i64 95, .string ⟨#[]⟩, .int .i64 0, .int .i64 96, .string ⟨#[]⟩, .int .i64 0] = rowCells (zs ++ [r95, r96]) := by rw [rowCells_append]; rfl
                  rw [e2] at hown10
                  obtain ⟨q1, q2⟩ := own_cap hown10
                  have cz1 : w10.cell? ⟨gf, zs.length * 3, none⟩ = some (.int .i64 95) := by
                    obtain ⟨g, hg, _, hc⟩ := own_kind (r := r95) hown10 rfl zs.length (by simp)
                    injection hg with hg; injection hg with hg; subst hg
                    exact hc
                  have cz2 : w10.cell? ⟨gf, (zs.length + 1) * 3, none⟩ = some (.int .i64 96) := by
                    obtain ⟨g, hg, _, hc⟩ := own_kind (r := r96) hown10 rfl (zs.length + 1) (by simp)
                    injection hg with hg; injection hg with hg; subst hg
                    exact hc
                  have hin := own_take (m := zs.length) (A := rowCells zs) (X := rowCells [r95, r96]) (by rw [← rowCells_append]; exact hown10) (by omega) (rowCells_len zs)
                  have HIN := Lib.hid hin
                  have HB10 := Lib.hid hb10
                  have HBW := Lib.hid (HB8.out.trans (hb10.mono HB8.out.size))
                  clear hown10 hgr10 hb10 hin e2 HO9 HB9
                  go_wp2_with fail
                  refine (lex_Join_sl w10 _ zs (.inr ⟨gf, 0, fc2, rfl, own_tokRow HIN.out⟩) (by omega) (by have := HZJ.out; omega)).mono ?_
                  rintro e w11 ⟨rfl, hb11⟩
                  have HIN11 := Lib.hid (own_belowE HIN.out hb11)
                  have HB11 := Lib.hid (HB10.out.trans (hb11.mono HB10.out.size))
                  have HBW11 := Lib.hid (HBW.out.trans (hb11.mono HBW.out.size))
                  have cy1 := (hb11.cell (p := ⟨gf, zs.length * 3, none⟩) gf2).trans cz1
                  have cy2 := (hb11.cell (p := ⟨gf, (zs.length + 1) * 3, none⟩) gf2).trans cz2
                  have HSAME := Lib.hid (law_sameR w11 (some ⟨gf, 0, none⟩) io _ _ fc2 ci zs (own_rowAt HIN11.out).2 (HZA.out.below HBW11.out) (by omega))
                  obtain ⟨J, hJ⟩ : ∃ J, J = joinL (textsOf zs) := ⟨_, rfl⟩
                  rw [← hJ] at HZJ ⊢
                  have HJ := Lib.hid hJ
                  clear hJ hb11 cz1 cz2 HIN HB10 HBW
                  go_wp2_with (first | (go_at_call 13; refine HSAME.out.mono ?_; rintro e w' ⟨rfl, d12, rfl⟩))
                  have HI0 := Lib.hid (show (w11.drewN d12).ownsRow w8.heap.size 33 3 (.slice (some ⟨gf, 0, none⟩) zs.length fc2) zs.length (rowCells (zpre 0 zs)) by rw [zpre_zero]; exact HIN11.out)
                  have HB0 := Lib.hid (below_drewN HB11.out d12)
                  go_loopw [23] (fun t23 wx => ∃ k : Nat, Hid (k ≤ zs.length) ∧ t23 = .int .i64 (k : Int) ∧ Hid (wx.ownsRow w8.heap.size 33 3 (.slice (some ⟨gf, 0, none⟩) zs.length fc2) zs.length (rowCells (zpre k zs)) ∧ Below w8.heap.size w8 wx)) (fun t23 _ => zs.length - (intOf t23).toNat)
                  case atStart => exact ⟨0, Lib.hid (Nat.zero_le _), rfl, Lib.hid ⟨HI0.out, HB0.out⟩⟩
                  case round =>
                    obtain ⟨k, hk, rfl, hB⟩ := hrel
                    by_cases hi : k < zs.length
                    · have p1 : ((k : Int) < (zs.length : Int)) = True := eq_true (by omega)
                      have hzk : (zpre k zs)[k]? = some zs[k] := zpre_at hi
                      obtain ⟨hkl, hge⟩ := List.getElem?_eq_some_iff.1 hzk
                      obtain ⟨t0, t1, t2⟩ := rowCells_at (zpre k zs) k hkl
                      rw [hge] at t1
                      have c1 := (hB.out.1.cellAt (k * 3 + 1) (by omega)).trans t1
                      have f1 := hB.out.1.frozenAt (k * 3 + 1)
                      have hst := hB.out.1.stored (k * 3 + 1) (.string (⟨#[122]⟩ ++ zs[k].2.1))
                      rw [rowCells_set1 _ _ _ hkl, hge] at hst
                      have hset : (zpre k zs).set k (zs[k].1, ⟨#[122]⟩ ++ zs[k].2.1, zs[k].2.2) = zpre (k + 1) zs := zpre_set hi
                      rw [hset] at hst
                      have hbn := hB.out.2.grown hst.2 hB.out.2.size (fun g hg => by injection hg with hg; subst hg; exact gf1)
                      have HN := Lib.hid (And.intro hst.1 hbn)
                      have hsz := HZS.out zs[k] (List.getElem_mem hi)
                      clear hst hbn hset t0 t1 t2 hge hkl hzk
                      generalize zs[k].2.1 = X at c1 HN hsz
                      go_wp2_with fail
                      exact ⟨⟨k + 1, Lib.hid hi, rfl, HN⟩, meas_j hi⟩
                    · have hke : k = zs.length := by have := hk.out; omega
                      subst hke
                      have p1 : ((zs.length : Int) < (zs.length : Int)) = False := eq_false (by omega)
                      have hfin := hB.out.1
                      rw [zpre_all] at hfin
                      have HF := Lib.hid hfin
                      have HBE := Lib.hid (HB8.out.trans (hB.out.2.mono HB8.out.size))
                      clear hfin hB
                      by_cases hz0 : zs = []
                      · have hl0 : zs.length = 0 := by rw [hz0]; rfl
                        have hj0 : J = [] := by rw [HJ.out, hz0]; rfl
                        go_wp2_with fail
                        go_ret
                        exact ⟨rfl, HBE.out⟩
                      · have hl0 : 0 < zs.length := List.length_pos_iff.2 hz0
                        have hjz := joinL_z zs
                        rw [← HJ.out] at hjz
                        have hx : TokSl2 wr (.slice (some ⟨gf, 0, none⟩) zs.length fc2) (zs.map zrow) := .inr ⟨gf, 0, fc2, by rw [List.length_map], own_tokRow HF.out⟩
                        have HX := Lib.hid hx
                        clear hx
                        go_wp2_with fail
                        refine (lex_Join_sl wr _ (zs.map zrow) HX.out (by rw [List.length_map]; omega) (by have := HZJ.out; omega)).mono ?_
                        rintro e w13 ⟨rfl, hb13⟩
                        have HBF := Lib.hid (HBE.out.trans (hb13.mono HBE.out.size))
                        clear hb13
                        generalize joinL (textsOf (zs.map zrow)) = J2 at hjz ⊢
                        have s1 : (⟨J2.toArray⟩ : ByteArray).size = J2.length := by rw [← len_data]
                        have s2 : (⟨J.toArray⟩ : ByteArray).size = J.length := by rw [← len_data]
                        have bj := HZJ.out
                        have y1 : ((J2.length : Int) == (J.length : Int) + (zs.length : Int)) = true := beq_iff_eq.2 (by omega)
                        go_wp2_with fail
                        go_ret
                        exact ⟨rfl, HBF.out⟩
end Go.Proofs.YtpkeonafcldkhaaGreatDoor
/- A slice of tokens among the arguments, opened so that append may read it. -/
set_option linter.unusedVariables false
set_option linter.unusedSimpArgs false
namespace Go.Proofs.YtpkeonafcldkhaaGreatDoor
open Go.ChangeShapes Go.WideShapes Go.RowKit Go.Deep

theorem row_src {w : World} {g o : Nat} {xs : List Row} (h : TokRow w g o xs) : ∀ j u, (rowCells xs)[j]? = some u → w.cell? ((⟨g, o, none⟩ : Addr).add j) = some u := by
  intro j u hu
  have hj : j < xs.length * 3 := by
    have := (List.getElem?_eq_some_iff.1 hu).1
    rw [rowCells_len] at this
    exact this
  have hq : j / 3 < xs.length := by omega
  obtain ⟨a, b, c⟩ := h.2 (j / 3) hq
  obtain ⟨a', b', c'⟩ := rowCells_at xs (j / 3) hq
  rw [Addr.add_lit]
  have h3 : j % 3 = 0 ∨ j % 3 = 1 ∨ j % 3 = 2 := by omega
  rcases h3 with h3 | h3 | h3
  · have e : j / 3 * 3 = j := by omega
    rw [e] at a a'
    rw [a, ← a', hu]
  · have e : j / 3 * 3 + 1 = j := by omega
    rw [e] at b'
    rw [show o + j / 3 * 3 + 1 = o + j by omega] at b
    rw [b, ← b', hu]
  · have e : j / 3 * 3 + 2 = j := by omega
    rw [e] at c'
    rw [show o + j / 3 * 3 + 2 = o + j by omega] at c
    rw [c, ← c', hu]
theorem open_toks2 {H : Type} {enc : TypeId × Value → H} {W : World} {a0 : Option Addr} {len cap fuel : Nat} {x : DataW H × List MemPlace}
    (hf : DataW.trod enc Tryz.prog W 0 (fun _ => true) true fuel 24 [.slice a0 len cap] = some x) :
    ∃ xs : List Row, SrcAt W (.slice a0 len cap) xs ∧ TokAt W (.slice a0 len cap) xs ∧ (xs = [] ∨ ∃ sp, x.1 = .slice (xs.map tokD) sp) := by
  obtain ⟨xs, hx, hd⟩ := open_toks hf
  refine ⟨xs, ?_, ?_, hd⟩
  · rcases hx with ⟨ao, c, hv, rfl⟩ | ⟨g, o, c, hv, hr⟩
    · injection hv with h1 h2 h3
      subst h1 h2 h3
      rcases open_slice Tryz.underlying24 hf with ⟨hcs, _⟩ | ⟨a, len', cap', m, n, D, Pl, hcs, _⟩
      · exact .inl ⟨by simpa using hcs, rfl⟩
      · simp at hcs
        obtain ⟨rfl, rfl, rfl⟩ := hcs
        exact .inr ⟨a, _, rfl, fun j u hu => by simp [rowCells] at hu⟩
    · rw [hv]
      exact .inr ⟨_, c, rfl, row_src hr⟩
  · rcases hx with ⟨ao, c, hv, rfl⟩ | ⟨g, o, c, hv, hr⟩
    · rw [hv]
      exact ⟨ao, c, rfl, fun j hj => absurd hj (by simp)⟩
    · rw [hv]
      exact hr.at
theorem text_le : ∀ {zs : List Row} (x : Row), x ∈ zs → x.2.1.size ≤ (joinL (textsOf zs)).length
  | [y], x, h => by
    obtain rfl := List.mem_singleton.1 h
    simp [textsOf, joinL]
  | y :: z :: r, x, h => by
    rcases List.mem_cons.1 h with rfl | h
    · simp [textsOf, joinL]
    · have := text_le (zs := z :: r) x h
      simp only [textsOf, List.map_cons, joinL, List.length_append, List.length_cons] at this ⊢
      omega
end Go.Proofs.YtpkeonafcldkhaaGreatDoor
