import Derived.WalkKit
import Derived.WalkSpells
import Derived.WalkLawsBesides
import Derived.Lib.Hide
import Derived.Test.YtpkeonafcldkhaaGreatDoorProg
import Derived.Lib.DecodeN
/- Small words on memory: a block that holds bytes, a block known whole; laws at one operation that leave an abstract world. -/
set_option linter.unusedVariables false
set_option linter.unusedSimpArgs false
namespace Go.Proofs.YtpkeonafcldkhaaGreatDoor
open Go.RowKit

theorem ret_bool {a b : Bool} (h : a = b) : Ending.returned (.bool a) = .returned (.bool b) := by rw [h]
theorem ret_int {k : IntKind} {a b : Int} (h : a = b) : Ending.returned (.int k a) = .returned (.int k b) := by rw [h]
theorem ret_str {a b : ByteArray} (h : a = b) : Ending.returned (.string a) = .returned (.string b) := by rw [h]

theorem gl (s : ByteArray) (k : Nat) (h : k < s.data.toList.length) : s.data.toList[k] = s[k]'(by simpa using h) := by simp [ByteArray.getElem_eq_getElem_data]
theorem len_data (s : ByteArray) : s.data.toList.length = s.size := by simp
theorem mk_data (s : ByteArray) : (⟨s.data.toList.toArray⟩ : ByteArray) = s := by cases s; simp

/-- Row g holds the bytes l from its first place on, none of them frozen. -/
def BytesAt (w : World) (g : Nat) (l : List UInt8) : Prop :=
  ∀ j (hj : j < l.length), w.cell? ⟨g, j, none⟩ = some (.int .u8 (l[j].toNat : Int)) ∧ w.frozen? ⟨g, j, none⟩ = false

theorem BytesAt.cell {w : World} {g : Nat} {l : List UInt8} (h : BytesAt w g l) {j : Nat} (hj : j < l.length) : w.cell? ⟨g, j, none⟩ = some (.int .u8 (l[j].toNat : Int)) := (h j hj).1
theorem BytesAt.free {w : World} {g : Nat} {l : List UInt8} (h : BytesAt w g l) {j : Nat} (hj : j < l.length) : w.frozen? ⟨g, j, none⟩ = false := (h j hj).2
theorem BytesAt.below {B : Nat} {w w' : World} {g : Nat} {l : List UInt8} (h : BytesAt w g l) (hb : Below B w w') (hg : g < B) : BytesAt w' g l :=
  fun j hj => ⟨(hb.cell (p := ⟨g, j, none⟩) hg).trans (h j hj).1, (hb.frozen (p := ⟨g, j, none⟩) hg).trans (h j hj).2⟩
theorem BytesAt.drew {w : World} {g : Nat} {l : List UInt8} (h : BytesAt w g l) : BytesAt w.drew g l := h
theorem BytesAt.set_ {w : World} {g : Nat} {l : List UInt8} (h : BytesAt w g l) {k : Nat} (hk : k < l.length) (c : UInt8) : BytesAt (w.setCell ⟨g, k, none⟩ (.int .u8 (c.toNat : Int))) g (l.set k c) := by
  intro j hj
  refine ⟨?_, (World.frozen?_setCell _ _ _ _).trans (h j (by simpa using hj)).2⟩
  by_cases e : j = k
  · subst e
    rw [World.cell?_setCell_same _ _ _ (h j (by simpa using hj)).1]
    simp
  · rw [World.cell?_setCell_other _ _ _ _ (by simp), (h j (by simpa using hj)).1]
    rw [List.getElem_set_ne (Ne.symm e)]

/-- '[]byte(s)'. -/
theorem wpList_bytes_of_string {P : Program} {w : World} {ops : Array Oper} {rest : List Oper} {o : Oper} {a : Act} {Q : Exit → Act → World → Prop}
    (hg : o.guard = none) (x : Operand) (src dst e : TypeId) (hop : o.op = Op.convert src dst x) (s : ByteArray) (hx : a.eval x = .string s)
    (hs : P.underlying src = some .string) (hd : P.underlying dst = some (.slice e)) (he : P.underlying e = some (.int .u8))
    (hK : ∀ cap w', s.size ≤ cap → BytesAt w' w.heap.size s.data.toList → Below w.heap.size w w' → w.heap.size < w'.heap.size → wpList P ops Q rest (a.put o.dst (.slice (some ⟨w.heap.size, 0, none⟩) s.size cap)) w') :
    wpList P ops Q (o :: rest) a w := by
  refine wpList_plain hg fun K hK' => ?_
  have hrun := run_bytes_of_string (P := P) w src dst e s hs hd he
  unfold Oper.wp
  simp only [execOp, hop, hx, Sem.run_bind, hrun, Result.andThen_ok, Sem.run_pure]
  refine hK' _ _ (hK _ _ (grownCap_ge w s.size 0 e) ?_ ((Below.refl _ _).drew.alloc (Nat.le_refl _) _) (by simp))
  intro j hj
  have hj' : j < s.data.size := by simpa using hj
  refine ⟨?_, ?_⟩
  · rw [show w.heap.size = w.drew.heap.size from rfl, World.cell?_alloc_mark, bytesRow_at s _ j hj']
    simp
  · rw [show w.heap.size = w.drew.heap.size from rfl, World.frozen?_alloc_mark]
    have h2 : s.data.size = s.size := rfl
    have : j < (bytesRow s (grownCap w s.size 0 e)).size := by simp [bytesRow]; omega
    simp; omega

/-- 'string(b)', b a row of the call's own. -/
theorem run_string_of {P : Program} {w : World} {g : Nat} {l : List UInt8} (h : BytesAt w g l) (src dst e : TypeId) (n cap : Nat) (hn : n = l.length) (hs : P.underlying src = some (.slice e)) (he : P.underlying e = some (.int .u8)) (hd : P.underlying dst = some .string) :
    (convert src dst (.slice (some ⟨g, 0, none⟩) n cap)).run P w = .ok (.string ⟨l.toArray⟩) w := by
  subst hn
  refine run_convert_bytes_back w src dst e _ cap l hs he hd fun j hj => ?_
  rw [Addr.add_lit, Nat.zero_add]
  exact (h j hj).1

/-- Block g is just the cells cs of element type t, none frozen. -/
def Blk (w : World) (g : Nat) (t : TypeId) (cs : Array Value) : Prop := w.heap[g]? = some (.cells cs t (0, 0))
section
variable {w w' : World} {g : Nat} {t : TypeId} {cs : Array Value}
theorem Blk.lt (h : Blk w g t cs) : g < w.heap.size := by
  rcases Nat.lt_or_ge g w.heap.size with hlt | hge
  · exact hlt
  · unfold Blk at h; rw [Array.getElem?_eq_none hge] at h; cases h
theorem Blk.cell (h : Blk w g t cs) (i : Nat) : w.cell? ⟨g, i, none⟩ = cs[i]? := cell_of_row w g i cs t (0, 0) h
theorem Blk.frozen (h : Blk w g t cs) (i : Nat) : w.frozen? ⟨g, i, none⟩ = false := by
  unfold Blk at h
  simp [World.frozen?, h]
theorem Blk.new (w : World) (t : TypeId) (cs : Array Value) : Blk (w.alloc (.cells cs t)) w.heap.size t cs := heap_alloc_new w _
theorem Blk.drew (h : Blk w g t cs) : Blk w.drew g t cs := h
theorem Blk.drewN (h : Blk w g t cs) (n : Nat) : Blk (w.drewN n) g t cs := h
theorem Blk.alloc (h : Blk w g t cs) (o : Obj) : Blk (w.alloc o) g t cs := (Below.heap_alloc w o g h.lt).trans h
theorem Blk.set_ (h : Blk w g t cs) (i : Nat) (u : Value) : Blk (w.setCell ⟨g, i, none⟩ u) g t (cs.setIfInBounds i u) := by
  unfold Blk at h ⊢
  simp [World.setCell, Array.getElem?_modify, h]
theorem Blk.far (h : Blk w g t cs) {p : Addr} (hp : g ≠ p.block) (u : Value) : Blk (w.setCell p u) g t cs := (Below.heap_setCell w p u g hp).trans h
theorem Blk.below {B : Nat} (h : Blk w g t cs) (hb : Below B w w') (hg : g < B) : Blk w' g t cs := (hb.block g hg).trans h
theorem Blk.grown {row : Option Nat} (h : Blk w g t cs) (hb : w.grownBy w' row) (hg : some g ≠ row) : Blk w' g t cs := (hb.block g h.lt hg).trans h
theorem Blk.ne_ {g' : Nat} {t' : TypeId} {cs' : Array Value} (h : Blk w g t cs) (h' : Blk w g' t' cs') (hne : t ≠ t') : g ≠ g' := by
  rintro rfl
  unfold Blk at h h'
  rw [h] at h'
  injection h' with h'
  injection h' with _ ht
  exact hne ht
theorem own_blk_ne {base : Nat} {e : TypeId} {size n : Nat} {v : Value} {xs : List Value} (h : w.ownsRow base e size v n xs) (hg : Blk w g t cs) (hne : e ≠ t) : v.ownBlock ≠ some g := by
  rcases h.2 with ⟨rfl, _⟩ | ⟨g', cap, cur, rfl, _, hh, _⟩
  · simp [Value.ownBlock]
  · intro he
    have : g' = g := by simpa [Value.ownBlock] using he
    subst this
    exact Blk.ne_ (t := e) hh hg hne rfl
end

theorem grow_trans {w0 w w' : World} {row : Option Nat} (h : w0.grownBy w row) (h' : w.grownBy w' row) : w0.grownBy w' row :=
  ⟨h'.os.trans h.os, h'.tape.trans h.tape, h'.output.trans h.output, Nat.le_trans h.size h'.size, fun k hk hne => (h'.block k (Nat.lt_of_lt_of_le hk h.size) hne).trans (h.block k hk hne)⟩

/-- 'out = append(out, x)': x's cells us lie in the block that was made for it. -/
theorem wpList_push {P : Program} {w0 : World} {ops : Array Oper} {rest : List Oper} {o : Oper} {a : Act} {Q : Exit → Act → World → Prop}
    (hg : o.guard = none) (s x : Operand) (t : TypeId) (hop : o.op = Op.call { callee := Callee.builtin Builtin.append, args := #[s, x], argTypes := #[t, t] })
    (base : Nat) (e : TypeId) (z : Value) (size bytes : Nat) (hinfo : (P.info? e).map (fun i => (i.zero, i.size, i.bytes)) = some (some z, size, bytes)) (h1 : P.underlying t = some (.slice e)) (hzs : z.cells.size = size) (hsz : 0 < size)
    (v : Value) (n : Nat) (xs : List Value) (hs : a.eval s = v) (hown : w0.ownsRow base e size v n xs) (us : List Value) (hus : us.length = size)
    (hx : a.eval x = .slice (some ⟨w0.heap.size, 0, none⟩) 1 1) (h1c : ∀ u ∈ us, u.oneCell' = true) (hmax : n + 1 ≤ maxLen) (hb : (n + 1) * bytes ≤ 140737488355328) (hbase : base ≤ w0.heap.size)
    (hK : ∀ v' w', w'.ownsRow base e size v' (n + 1) (xs ++ us) → w0.grownBy w' v.ownBlock → wpList P ops Q rest (a.put o.dst v') w') :
    wpList P ops Q (o :: rest) a (w0.alloc (.cells us.toArray e)) := by
  obtain ⟨i, hi, hz, hsi, hby⟩ := info_parts hinfo
  refine wpList_append_own _ hg s x t hop base e i z size bytes h1 hi hz hsi hby hzs hsz v n xs hs (hown.alloc _) ⟨w0.heap.size, 0, none⟩ 1 1 us hx (by omega) ?_ h1c hmax hb (by simp; omega) ?_
  · intro j u hu
    have hj : j < us.length := (List.getElem?_eq_some_iff.1 hu).1
    rw [Addr.add_lit, Nat.zero_add, World.cell?_alloc_at _ _ _ _ rfl]
    simpa using hu
  · intro v' w' ho hgr _
    exact hK v' w' ho (grow_trans (World.grownBy_alloc w0 _ _) hgr)

/-- The same within the capacity: the value is known. -/
theorem wpList_push_fits {P : Program} {w0 : World} {ops : Array Oper} {rest : List Oper} {o : Oper} {a : Act} {Q : Exit → Act → World → Prop}
    (hg : o.guard = none) (s x : Operand) (t : TypeId) (hop : o.op = Op.call { callee := Callee.builtin Builtin.append, args := #[s, x], argTypes := #[t, t] })
    (base : Nat) (e : TypeId) (z : Value) (size bytes : Nat) (hinfo : (P.info? e).map (fun i => (i.zero, i.size, i.bytes)) = some (some z, size, bytes)) (h1 : P.underlying t = some (.slice e))
    (g k cap : Nat) (xs : List Value) (hs : a.eval s = .slice (some ⟨g, 0, none⟩) k cap) (hown : w0.ownsRow base e size (.slice (some ⟨g, 0, none⟩) k cap) k xs) (us : List Value) (hus : us.length = size)
    (hx : a.eval x = .slice (some ⟨w0.heap.size, 0, none⟩) 1 1) (h1c : ∀ u ∈ us, u.oneCell' = true) (hk : k + 1 ≤ cap)
    (hK : ∀ w', w'.ownsRow base e size (.slice (some ⟨g, 0, none⟩) (k + 1) cap) (k + 1) (xs ++ us) → w0.grownBy w' (some g) → wpList P ops Q rest (a.put o.dst (.slice (some ⟨g, 0, none⟩) (k + 1) cap)) w') :
    wpList P ops Q (o :: rest) a (w0.alloc (.cells us.toArray e)) := by
  obtain ⟨i, hi, hz, hsi, hby⟩ := info_parts hinfo
  refine wpList_append_fits _ hg s x t hop base e i size h1 hi hsi g k cap xs hs (hown.alloc _) ⟨w0.heap.size, 0, none⟩ 1 1 us hx (by omega) ?_ h1c hk ?_
  · intro j u hu
    have hj : j < us.length := (List.getElem?_eq_some_iff.1 hu).1
    rw [Addr.add_lit, Nat.zero_add, World.cell?_alloc_at _ _ _ _ rfl]
    simpa using hu
  · intro w' ho hgr
    exact hK w' ho (grow_trans (World.grownBy_alloc w0 _ _) hgr)

theorem one1 {u : Value} (h : u.oneCell' = true) : ∀ x ∈ [u], x.oneCell' = true := by intro x hx; simp at hx; subst hx; exact h
/-- Bytes as cells. -/
def cellsOf (l : List UInt8) : List Value := l.map fun c => .int .u8 (c.toNat : Int)
theorem cellsOf_append (l m : List UInt8) : cellsOf (l ++ m) = cellsOf l ++ cellsOf m := by simp [cellsOf]
theorem bytesAt_of_own {w : World} {base : Nat} {e : TypeId} {g n cap : Nat} {l : List UInt8} (h : w.ownsRow base e 1 (.slice (some ⟨g, 0, none⟩) n cap) n (cellsOf l)) : BytesAt w g l := by
  have hn : l.length = n := by have := h.1; simpa [cellsOf] using this
  intro j hj
  refine ⟨?_, h.frozenAt j⟩
  rw [h.cellAt j (by omega)]
  simp [cellsOf, hj]

theorem Below.le {B : Nat} {w w' : World} (h : Below B w w') : w.heap.size ≤ w'.heap.size := h.size
end Go.Proofs.YtpkeonafcldkhaaGreatDoor
/- Plain words of the lexer. -/
set_option linter.unusedVariables false
set_option linter.unusedSimpArgs false
namespace Go.Proofs.YtpkeonafcldkhaaGreatDoor
open Go.RowKit
def letter (c : UInt8) : Bool := (97 ≤ c.toNat && c.toNat ≤ 122) || (65 ≤ c.toNat && c.toNat ≤ 90) || c.toNat == 95
def digit (c : UInt8) : Bool := 48 ≤ c.toNat && c.toNat ≤ 57
def nameCh (colons : Bool) (c : UInt8) : Bool := letter c || digit c || (colons && c.toNat == 58)
def low (c : UInt8) : UInt8 := if 65 ≤ c.toNat ∧ c.toNat ≤ 90 then c + 32 else c

/-- The first k bytes made small. -/
def lowTo (l : List UInt8) (k : Nat) : List UInt8 := (l.take k).map low ++ l.drop k
theorem lowTo_zero (l : List UInt8) : lowTo l 0 = l := by simp [lowTo]
theorem lowTo_all (l : List UInt8) {k : Nat} (h : l.length ≤ k) : lowTo l k = l.map low := by
  simp [lowTo, List.take_of_length_le h, List.drop_eq_nil_of_le h]
theorem lowTo_len (l : List UInt8) (k : Nat) : (lowTo l k).length = l.length := by simp [lowTo]; omega
theorem lowTo_at (l : List UInt8) (k : Nat) (h : k < l.length) : (lowTo l k)[k]'(by rw [lowTo_len]; exact h) = l[k] := by
  simp only [lowTo]
  rw [List.getElem_append_right (by simp; omega)]
  simp [Nat.min_eq_left (Nat.le_of_lt h)]
theorem lowTo_succ (l : List UInt8) (k : Nat) (h : k < l.length) : lowTo l (k + 1) = (lowTo l k).set k (low l[k]) := by
  have h0 : k - ((l.take k).map low).length = 0 := by simp; omega
  have h1 : (l.drop k).set 0 (low l[k]) = low l[k] :: l.drop (k + 1) := by rw [List.drop_eq_getElem_cons h]; rfl
  unfold lowTo
  rw [List.set_append_right _ _ (by simp; omega), h0, h1, List.take_succ_eq_append_getElem h, List.map_append, List.append_assoc]
  rfl
theorem lowTo_same (l : List UInt8) (k : Nat) (h : k < l.length) (hl : low l[k] = l[k]) : lowTo l (k + 1) = lowTo l k := by
  rw [lowTo_succ l k h, hl]
  conv => lhs; rw [← lowTo_at l k h]
  exact List.set_getElem_self _
theorem low_up (c : UInt8) (h : 65 ≤ c.toNat ∧ c.toNat ≤ 90) : ((low c).toNat : Int) = (c.toNat : Int) + 32 := by
  rw [low, if_pos h, UInt8.toNat_add]
  simp; omega
theorem low_id (c : UInt8) (h : ¬ (65 ≤ c.toNat ∧ c.toNat ≤ 90)) : low c = c := by rw [low, if_neg h]

def spanEnd (p : UInt8 → Bool) (l : List UInt8) (i : Nat) : Nat := i + ((l.drop i).takeWhile p).length
theorem spanEnd_step {p : UInt8 → Bool} {l : List UInt8} {i : Nat} (h : i < l.length) (hp : p l[i] = true) : spanEnd p l (i + 1) = spanEnd p l i := by
  unfold spanEnd
  rw [List.drop_eq_getElem_cons h, List.takeWhile_cons, if_pos hp]
  simp; omega
theorem spanEnd_stop {p : UInt8 → Bool} {l : List UInt8} {i : Nat} (h : i < l.length) (hp : p l[i] = false) : spanEnd p l i = i := by
  unfold spanEnd
  rw [List.drop_eq_getElem_cons h, List.takeWhile_cons, if_neg (by simp [hp])]
  simp
theorem spanEnd_end {p : UInt8 → Bool} {l : List UInt8} {i : Nat} (h : l.length ≤ i) : spanEnd p l i = i := by
  unfold spanEnd
  rw [List.drop_eq_nil_of_le h]; simp
theorem spanEnd_stepB {p : UInt8 → Bool} {s : ByteArray} {k : Nat} (h : k < s.size) (hp : p s[k] = true) : spanEnd p s.data.toList (k + 1) = spanEnd p s.data.toList k :=
  spanEnd_step (by simpa using h) (by rw [gl]; exact hp)
theorem spanEnd_stopB {p : UInt8 → Bool} {s : ByteArray} {k : Nat} (h : k < s.size) (hp : p s[k] = false) : spanEnd p s.data.toList k = k :=
  spanEnd_stop (by simpa using h) (by rw [gl]; exact hp)
theorem spanEnd_ge (p : UInt8 → Bool) (l : List UInt8) (i : Nat) : i ≤ spanEnd p l i := by unfold spanEnd; omega
theorem spanEnd_le (p : UInt8 → Bool) (l : List UInt8) (i : Nat) (h : i ≤ l.length) : spanEnd p l i ≤ l.length := by
  unfold spanEnd
  have := (List.takeWhile_prefix p (l := l.drop i)).length_le
  simp at this
  omega

def lowPre (l : List UInt8) (k : Nat) : List UInt8 := (l.take k).map low
theorem lowPre_succ (l : List UInt8) (k : Nat) (h : k < l.length) : lowPre l (k + 1) = lowPre l k ++ [low l[k]] := by
  rw [lowPre, List.take_succ_eq_append_getElem h, List.map_append]; rfl
/-- The keywords. -/
def kws : List (List UInt8) := [[97, 110, 100], [98, 111, 111, 108], [98, 121], [103, 114, 111, 117, 112, 95, 108, 101, 102, 116], [103, 114, 111, 117, 112, 95, 114, 105, 103, 104, 116], [105, 103, 110, 111, 114, 105, 110, 103], [111, 102, 102, 115, 101, 116], [111, 110], [111, 114], [117, 110, 108, 101, 115, 115], [119, 105, 116, 104, 111, 117, 116], [97, 118, 103], [98, 111, 116, 116, 111, 109, 107], [99, 111, 117, 110, 116], [99, 111, 117, 110, 116, 95, 118, 97, 108, 117, 101, 115], [103, 114, 111, 117, 112], [109, 97, 120], [109, 105, 110], [113, 117, 97, 110, 116, 105, 108, 101], [115, 116, 100, 100, 101, 118], [115, 116, 100, 118, 97, 114], [115, 117, 109], [116, 111, 112, 107]]
def isKw (l : List UInt8) : Bool := kws.contains l
theorem isKw_len {l : List UInt8} (h : isKw l = true) : l.length ≤ 12 := by
  have hall : ∀ k ∈ kws, k.length ≤ 12 := by decide
  exact hall l (by simpa [isKw] using h)
def word (l : List UInt8) : Bool := isKw (l.map low)
theorem word_long {l : List UInt8} (h : 12 < l.length) : word l = false := by
  cases hw : word l
  · rfl
  · have := isKw_len hw
    simp at this
    omega
/-- May l be a label's name, a metric's name? -/
def isLabel (l : List UInt8) : Bool := match l with | [] => false | c :: r => letter c && (c :: r).all (nameCh false)
def isMetric (l : List UInt8) : Bool := match l with | [] => false | c :: r => !digit c && (c :: r).all (nameCh true)
theorem takeWhile_len_all (p : UInt8 → Bool) : ∀ l : List UInt8, ((l.takeWhile p).length == l.length) = l.all p
  | [] => rfl
  | c :: r => by
    have ih := takeWhile_len_all p r
    cases hp : p c
    · simp [hp]
    · simpa [List.takeWhile_cons, hp] using ih
theorem spanEnd_all (p : UInt8 → Bool) (l : List UInt8) : (spanEnd p l 0 == l.length) = l.all p := by
  rw [← takeWhile_len_all]
  simp [spanEnd]

/-- What is left to be asked of a name from place k on. -/
def idAt (col : Bool) (l : List UInt8) (k : Nat) : Bool := if k = 0 then (if col then isMetric l else isLabel l) else (l.drop k).all (nameCh col)
theorem nameCh_letter {col : Bool} {c : UInt8} (h : letter c = true) : nameCh col c = true := by simp [nameCh, h]
theorem nameCh_digit {col : Bool} {c : UInt8} (h : digit c = true) : nameCh col c = true := by simp [nameCh, h]
theorem letter_digit {c : UInt8} (h : letter c = true) : digit c = false := by
  simp [letter, digit] at *; omega
theorem idAt_end {col : Bool} {l : List UInt8} {k : Nat} (h : k = l.length) : idAt col l k = !l.isEmpty := by
  cases l with
  | nil => subst h; cases col <;> rfl
  | cons c r =>
    have : k ≠ 0 := by simp at h; omega
    rw [idAt, if_neg this, List.drop_eq_nil_of_le (by omega)]; rfl
theorem idAt_one (col : Bool) (c : UInt8) (r : List UInt8) : idAt col (c :: r) 1 = r.all (nameCh col) := by simp [idAt]
theorem idAt_step {col : Bool} {s : ByteArray} {k : Nat} (h : k < s.size) (hc : letter s[k] = true ∨ (col = true ∧ s[k].toNat = 58) ∨ (k ≠ 0 ∧ digit s[k] = true)) : idAt col s.data.toList (k + 1) = idAt col s.data.toList k := by
  have hk : k < s.data.toList.length := by rw [len_data]; exact h
  have hg : s.data.toList[k] = s[k] := gl s k hk
  have hn : nameCh col s[k] = true := by
    rcases hc with h | ⟨h1, h2⟩ | ⟨_, h⟩
    · exact nameCh_letter h
    · simp [nameCh, h1, h2]
    · exact nameCh_digit h
  by_cases h0 : k = 0
  · subst h0
    cases hl : s.data.toList with
    | nil => rw [hl] at hk; simp at hk
    | cons c r =>
      have hcs : c = s[0] := by rw [← hg]; simp [hl]
      rw [idAt_one, idAt, if_pos rfl]
      rw [← hcs] at hn hc
      cases col
      · have hlt : letter c = true := by rcases hc with h | ⟨h, _⟩ | ⟨h, _⟩ <;> simp_all
        simp [isLabel, hlt, hn]
      · have hd : digit c = false := by
          rcases hc with h | ⟨_, h⟩ | ⟨h, _⟩
          · exact letter_digit h
          · simp [digit, h]
          · simp at h
        simp [isMetric, hd, hn]
  · rw [idAt, idAt, if_neg (by omega), if_neg h0, List.drop_eq_getElem_cons hk, hg, List.all_cons, hn, Bool.true_and]
theorem idAt_stop {col : Bool} {s : ByteArray} {k : Nat} (h : k < s.size) (hl : letter s[k] = false) (hc : col = true → s[k].toNat ≠ 58) (hd : k = 0 ∨ digit s[k] = false) : idAt col s.data.toList k = false := by
  have hk : k < s.data.toList.length := by rw [len_data]; exact h
  have hg : s.data.toList[k] = s[k] := gl s k hk
  by_cases h0 : k = 0
  · subst h0
    cases hls : s.data.toList with
    | nil => rw [hls] at hk; simp at hk
    | cons c r =>
      have hcs : c = s[0] := by rw [← hg]; simp [hls]
      rw [idAt, if_pos rfl]
      rw [← hcs] at hl hc
      cases col
      · simp [isLabel, hl]
      · have := hc rfl
        cases hd : digit c <;> simp [isMetric, nameCh, hl, hd, this]
  · rw [idAt, if_neg h0, List.drop_eq_getElem_cons hk, hg, List.all_cons]
    have hd' : digit s[k] = false := hd.resolve_left h0
    have : nameCh col s[k] = false := by
      cases col
      · simp [nameCh, hl, hd']
      · simp [nameCh, hl, hd', hc rfl]
    rw [this, Bool.false_and]
/-- The byte at a place, 0 behind the end. -/
def atB (l : List UInt8) (i : Nat) : UInt8 := l.getD i 0
theorem atB_lt {s : ByteArray} {i : Nat} (h : i < s.size) : atB s.data.toList i = s[i] := by
  have hk : i < s.data.toList.length := by rw [len_data]; exact h
  rw [← gl s i hk, atB, List.getD_eq_getElem?_getD, List.getElem?_eq_getElem hk]; rfl
theorem atB_ge {l : List UInt8} {i : Nat} (h : l.length ≤ i) : atB l i = 0 := by
  rw [atB, List.getD_eq_getElem?_getD, List.getElem?_eq_none h]; rfl
end Go.Proofs.YtpkeonafcldkhaaGreatDoor
/- lex: the small functions. -/
set_option linter.unusedVariables false
set_option linter.unusedSimpArgs false
namespace Go.Proofs.YtpkeonafcldkhaaGreatDoor
open Go.RowKit

theorem lex_digit (c : UInt8) (w : World) :
    Calls Tryz.prog 47 #[.int .u8 (c.toNat : Int)] w fun e w' => e = .returned (.bool (digit c)) ∧ w = w' := by
  go_enter Tryz.func47, Tryz.ntmps47
  go_wp2
  all_goals (go_ret; exact ⟨ret_bool (by rw [Bool.eq_iff_iff]; simp [digit]; omega), rfl⟩)
theorem lex_letter (c : UInt8) (w : World) :
    Calls Tryz.prog 44 #[.int .u8 (c.toNat : Int)] w fun e w' => e = .returned (.bool (letter c)) ∧ w = w' := by
  go_enter Tryz.func44, Tryz.ntmps44
  go_wp2
  all_goals (go_ret; exact ⟨ret_bool (by rw [Bool.eq_iff_iff]; simp [letter]; omega), rfl⟩)

set_option maxHeartbeats 400000 in
theorem lex_nameEnd (s : ByteArray) (i : Nat) (col : Bool) (w : World) (hs : s.size ≤ maxLen) (hi : i ≤ maxLen) :
    Calls Tryz.prog 45 #[.string s, .int .i64 (i : Int), .bool col] w fun e w' => e = .returned (.int .i64 (spanEnd (nameCh col) s.data.toList i : Nat)) ∧ w = w' := by
  unfold maxLen at hs hi
  go_enter Tryz.func45, Tryz.ntmps45
  go_wp2_with fail
  go_loop [1] (fun t => ∃ k : Nat, k ≤ 9223372036854775807 ∧ t = .int .i64 k ∧ Hid (spanEnd (nameCh col) s.data.toList k = spanEnd (nameCh col) s.data.toList i)) (fun t => s.size - (intOf t).toNat)
  case atStart => exact ⟨i, hi, rfl, rfl⟩
  case round =>
    obtain ⟨k, hk, rfl, hsp⟩ := hrel
    by_cases hlt : k < s.size
    · cases hl : letter s[k] <;> cases hd : digit s[k] <;> cases col
      all_goals
        go_wp2_with (first | (go_at_call 44; refine (lex_letter _ _).mono ?_; rintro e w' ⟨rfl, rfl⟩) | (go_at_call 47; refine (lex_digit _ _).mono ?_; rintro e w' ⟨rfl, rfl⟩))
      all_goals first
        | (go_ret; exact ⟨ret_int (by rw [← hsp.out, spanEnd_stopB hlt (by simp [nameCh, *]; try (rename_i h; simp at h; omega))]), rfl⟩)
        | (go_round
           case rel => exact ⟨k + 1, by omega, by go_num, (spanEnd_stepB hlt (by simp [nameCh, *]; try (rename_i h; simp at h; omega))).trans hsp.out⟩
           case measure => simp [intOf]; omega)
    · go_wp2_with fail
      go_ret
      exact ⟨ret_int (by rw [← hsp.out, spanEnd_end (by simpa using hlt)]), rfl⟩

set_option maxHeartbeats 400000 in
theorem lex_lower (s : ByteArray) (w : World) (hs : s.size ≤ maxLen) :
    Calls Tryz.prog 43 #[.string s] w fun e w' => e = .returned (.string ⟨(s.data.toList.map low).toArray⟩) ∧ Below w.heap.size w w' := by
  unfold maxLen at hs
  go_enter Tryz.func43, Tryz.ntmps43
  go_wp2_with (with_reducible refine wpList_bytes_of_string rfl (.tmp 6) 9 40 5 rfl s rfl Tryz.underlying9 Tryz.underlying40 Tryz.underlying5 ?_)
  intro cap w1 hcap hb1 hbel1 hsz1
  go_wp2_with fail
  go_loopw [10] (fun i wr => ∃ k : Nat, k ≤ s.size ∧ i = .int .i64 k ∧ BytesAt wr w.heap.size (lowTo s.data.toList k) ∧ Below w.heap.size w wr ∧ w.heap.size < wr.heap.size) (fun i _ => s.size - (intOf i).toNat)
  case atStart => exact ⟨0, Nat.zero_le _, rfl, by rw [lowTo_zero]; exact hb1, hbel1, hsz1⟩
  case round =>
    obtain ⟨k, hk, rfl, hb, hbel, hsz⟩ := hrel
    by_cases hlt : k < s.size
    · have hkl : k < s.data.toList.length := by rw [len_data]; exact hlt
      have hkl' : k < (lowTo s.data.toList k).length := by rw [lowTo_len]; exact hkl
      have hc : wr.cell? ⟨w.heap.size, k, none⟩ = some (.int .u8 (s[k].toNat : Int)) := by
        rw [hb.cell hkl', lowTo_at _ _ hkl, gl]
      have hf : wr.frozen? ⟨w.heap.size, k, none⟩ = false := hb.free hkl'
      by_cases hup : 65 ≤ s[k].toNat ∧ s[k].toNat ≤ 90
      · have hset := hb.set_ hkl' (low s[k])
        rw [low_up _ hup] at hset
        have hnx : BytesAt (wr.setCell ⟨w.heap.size, k, none⟩ (.int .u8 ((s[k].toNat : Int) + 32))) w.heap.size (lowTo s.data.toList (k + 1)) := by
          rw [lowTo_succ _ _ hkl, gl]; exact hset
        have HN := Lib.hid hnx
        have HB := Lib.hid hbel
        clear hset hnx hb hb1 hbel hbel1
        obtain ⟨hu1, hu2⟩ := hup
        go_wp2_with fail
        go_roundw
        case rel => exact ⟨k + 1, by omega, by go_num, HN.out, HB.out.setCell (Nat.le_refl _) _, by simpa using hsz⟩
        case measure => simp [intOf]; omega
      · have hnx : BytesAt wr w.heap.size (lowTo s.data.toList (k + 1)) := by
          rw [lowTo_same _ _ hkl (by rw [gl]; exact low_id _ hup)]; exact hb
        have HN := Lib.hid hnx
        have HB := Lib.hid hbel
        clear hnx hb hb1 hbel hbel1
        rcases (show s[k].toNat < 65 ∨ (65 ≤ s[k].toNat ∧ 90 < s[k].toNat) from by omega) with hu | ⟨hu1, hu2⟩
        all_goals
          go_wp2_with fail
          go_roundw
          case rel => exact ⟨k + 1, by omega, by go_num, HN.out, HB.out, hsz⟩
          case measure => simp [intOf]; omega
    · have hke : k = s.size := by omega
      have hlen : s.data.toList.length = s.size := len_data s
      rw [lowTo_all _ (by omega)] at hb
      have hback := run_string_of (P := Tryz.prog) hb 40 9 5 s.size cap (by simp) Tryz.underlying40 Tryz.underlying5 Tryz.underlying9
      have HB := Lib.hid hbel
      clear hlen hke hb hbel
      go_wp2_with fail
      go_ret
      exact ⟨rfl, HB.out⟩
end Go.Proofs.YtpkeonafcldkhaaGreatDoor
/- lex: IsLabel, IsMetric, Word. -/
set_option linter.unusedVariables false
set_option linter.unusedSimpArgs false
namespace Go.Proofs.YtpkeonafcldkhaaGreatDoor
open Go.RowKit

theorem ret_sb {s t : ByteArray} {a b : Bool} (h : s = t) (h' : a = b) : Ending.returned (.tuple #[.string s, .bool a]) = .returned (.tuple #[.string t, .bool b]) := by rw [h, h']
theorem size_mk (l : List UInt8) : (⟨l.toArray⟩ : ByteArray).size = l.length := by simp [ByteArray.size]
/-- What Word answers. -/
def wordOut (l : List UInt8) : ByteArray := if word l then ⟨(l.map low).toArray⟩ else ⟨#[]⟩

theorem lex_isLabel_nil (w : World) : Calls Tryz.prog 21 #[.string ⟨#[]⟩] w fun e w' => e = .returned (.bool false) ∧ w = w' := by
  go_enter Tryz.func21, Tryz.ntmps21
  go_wp2_with fail
  go_ret
  exact ⟨rfl, rfl⟩
set_option maxHeartbeats 400000 in
theorem lex_isLabel (s : ByteArray) (w : World) (hs : s.size ≤ maxLen) :
    Calls Tryz.prog 21 #[.string s] w fun e w' => e = .returned (.bool (isLabel s.data.toList)) ∧ w = w' := by
  cases hl : s.data.toList with
  | nil =>
    have : s = ⟨#[]⟩ := by rw [← mk_data s, hl]
    subst this
    exact lex_isLabel_nil w
  | cons c r =>
    have hsz : 0 < s.size := by rw [← len_data, hl]; simp
    have hc : s[0] = c := by rw [← gl s 0 (by rw [hl]; simp)]; simp [hl]
    have hsp := spanEnd_all (nameCh false) s.data.toList
    rw [len_data] at hsp
    have hne : (s.toList == []) = false := by rw [ByteArray.toList_eq, hl]; rfl
    have hfin : isLabel s.data.toList = (letter c && s.data.toList.all (nameCh false)) := by rw [hl]; rfl
    rw [← hl, hfin, ← hsp, ← hc]
    have hs' := hs
    unfold maxLen at hs'
    clear hfin hc hsp hl
    cases hlt : letter s[0]
    all_goals
      go_enter Tryz.func21, Tryz.ntmps21
      go_wp2_with (first | (go_at_call 44; refine (lex_letter _ _).mono ?_; rintro e w' ⟨rfl, rfl⟩) | (go_at_call 45; refine (lex_nameEnd s 0 false _ hs (by decide)).mono ?_; rintro e w' ⟨rfl, rfl⟩))
      go_ret
      exact ⟨ret_bool (by rw [Bool.eq_iff_iff]; simp; try omega), rfl⟩

theorem lex_isMetric_nil (w : World) : Calls Tryz.prog 24 #[.string ⟨#[]⟩] w fun e w' => e = .returned (.bool false) ∧ w = w' := by
  go_enter Tryz.func24, Tryz.ntmps24
  go_wp2_with fail
  go_ret
  exact ⟨rfl, rfl⟩
set_option maxHeartbeats 400000 in
theorem lex_isMetric (s : ByteArray) (w : World) (hs : s.size ≤ maxLen) :
    Calls Tryz.prog 24 #[.string s] w fun e w' => e = .returned (.bool (isMetric s.data.toList)) ∧ w = w' := by
  cases hl : s.data.toList with
  | nil =>
    have : s = ⟨#[]⟩ := by rw [← mk_data s, hl]
    subst this
    exact lex_isMetric_nil w
  | cons c r =>
    have hsz : 0 < s.size := by rw [← len_data, hl]; simp
    have hc : s[0] = c := by rw [← gl s 0 (by rw [hl]; simp)]; simp [hl]
    have hsp := spanEnd_all (nameCh true) s.data.toList
    rw [len_data] at hsp
    have hne : (s.toList == []) = false := by rw [ByteArray.toList_eq, hl]; rfl
    have hfin : isMetric s.data.toList = (!digit c && s.data.toList.all (nameCh true)) := by rw [hl]; rfl
    rw [← hl, hfin, ← hsp, ← hc]
    have hs' := hs
    unfold maxLen at hs'
    clear hfin hc hsp hl
    cases hlt : digit s[0]
    all_goals
      go_enter Tryz.func24, Tryz.ntmps24
      go_wp2_with (first | (go_at_call 47; refine (lex_digit _ _).mono ?_; rintro e w' ⟨rfl, rfl⟩) | (go_at_call 45; refine (lex_nameEnd s 0 true _ hs (by decide)).mono ?_; rintro e w' ⟨rfl, rfl⟩))
      go_ret
      exact ⟨ret_bool (by rw [Bool.eq_iff_iff]; simp; try omega), rfl⟩


theorem Below.of_eq {w w' : World} (h : w = w') : Below w.heap.size w w' := by subst h; exact Below.refl _ _
set_option maxHeartbeats 1000000 in
theorem lex_word (s : ByteArray) (w : World) (hs : s.size ≤ maxLen) :
    Calls Tryz.prog 20 #[.string s] w fun e w' => e = .returned (.tuple #[.string (wordOut s.data.toList), .bool (word s.data.toList)]) ∧ Below w.heap.size w w' := by
  have hs' := hs
  unfold maxLen at hs'
  by_cases h12 : 12 < s.size
  · have hw : word s.data.toList = false := word_long (by rw [len_data]; exact h12)
    have hw2 : wordOut s.data.toList = ⟨#[]⟩ := by simp [wordOut, hw]
    rw [hw, hw2]
    clear hw hw2
    go_enter Tryz.func20, Tryz.ntmps20
    go_wp2_with fail
    go_ret2
    exact ⟨rfl, Below.refl _ _⟩
  · have hwo : wordOut s.data.toList = (if isKw (s.data.toList.map low) then ⟨(s.data.toList.map low).toArray⟩ else ⟨#[]⟩) := rfl
    have hw : word s.data.toList = isKw (s.data.toList.map low) := rfl
    go_enter Tryz.func20, Tryz.ntmps20
    have HO := Lib.hid hwo
    have HW := Lib.hid hw
    clear hwo hw
    go_wp2_with fail
    refine (lex_lower s _ hs).mono ?_
    rintro e w1 ⟨rfl, hb⟩
    generalize s.data.toList.map low = L at HO HW ⊢
    have HB := Lib.hid hb
    clear hb
    cases hk : isKw L
    · have hne : ∀ k, k ∈ kws → (L == k) = false := by
        intro k hkm
        cases hb : L == k
        · rfl
        · have : L = k := by simpa using hb
          subst this
          simp [isKw] at hk
          exact absurd hkm hk
      simp only [kws, List.mem_cons, List.not_mem_nil, or_false, forall_eq_or_imp, forall_eq] at hne
      obtain ⟨h1, h2, h3, h4, h5, h6, h7, h8, h9, h10, h11, h12, h13, h14, h15, h16, h17, h18, h19, h20, h21, h22, h23⟩ := hne
      have HK := Lib.hid hk
      clear hk
      go_wp2_with fail
      go_ret2
      exact ⟨ret_sb (by rw [HO.out, HK.out]; rfl) (by rw [HW.out, HK.out]), HB.out⟩
    · have hm : L ∈ kws := by simpa [isKw] using hk
      simp only [kws, List.mem_cons, List.not_mem_nil, or_false] at hm
      have HK := Lib.hid hk
      clear hk
      rcases hm with rfl | rfl | rfl | rfl | rfl | rfl | rfl | rfl | rfl | rfl | rfl | rfl | rfl | rfl | rfl | rfl | rfl | rfl | rfl | rfl | rfl | rfl | rfl
      all_goals
        go_wp2_with fail
        go_ret2
        exact ⟨ret_sb (by rw [HO.out, HK.out]; rfl) (by rw [HW.out, HK.out]), HB.out⟩
end Go.Proofs.YtpkeonafcldkhaaGreatDoor
/- Plain words of layer 1: runes, literals. -/
set_option linter.unusedVariables false
set_option linter.unusedSimpArgs false
namespace Go.Proofs.YtpkeonafcldkhaaGreatDoor
open Go.RowKit

/-- The rune and the width at place i, as the model decodes. -/
def dec (l : List UInt8) (i : Nat) : Nat × Nat := Lib.decodeN (l.length - i) (l.getD i 0).toNat (l.getD (i + 1) 0).toNat (l.getD (i + 2) 0).toNat (l.getD (i + 3) 0).toNat
theorem get_bang (s : ByteArray) (i : Nat) : s.get! i = s.data.toList.getD i 0 := by
  cases s with
  | mk d =>
    simp only [ByteArray.get!, List.getD_eq_getElem?_getD, Array.getElem?_toList]
    rw [getElem!_def]
    cases d[i]? <;> rfl
theorem dec_eq (s : ByteArray) (i : Nat) : Utf8.decode s i = dec s.data.toList i := by
  rw [Lib.decode_at, dec, get_bang, get_bang, get_bang, get_bang, len_data]
theorem dec_pos (l : List UInt8) (i : Nat) : 1 ≤ (dec l i).2 := by
  unfold dec Lib.decodeN
  repeat' split
  all_goals simp
theorem dec_w (l : List UInt8) (i : Nat) (h : i < l.length) : i + (dec l i).2 ≤ l.length := by
  unfold dec Lib.decodeN
  repeat' split
  all_goals simp
  all_goals omega
/-- No rune begins here. -/
def bad (l : List UInt8) (i : Nat) : Bool := dec l i == (65533, 1)

def vAt (l : List UInt8) : Nat → Nat → Bool
  | 0, _ => true
  | f + 1, i => if i < l.length then (if bad l i then false else vAt l f (i + (dec l i).2)) else true
def valid (l : List UInt8) : Bool := vAt l l.length 0
theorem vAt_end (l : List UInt8) (f i : Nat) (h : l.length ≤ i) : vAt l f i = true := by
  cases f with
  | zero => rfl
  | succ f => rw [vAt, if_neg (by omega)]
theorem vAt_fuel (l : List UInt8) : ∀ (f g i : Nat), l.length - i ≤ f → l.length - i ≤ g → vAt l f i = vAt l g i
  | 0, g, i, hf, _ => by rw [vAt_end l 0 i (by omega), vAt_end l g i (by omega)]
  | f + 1, 0, i, _, hg => by rw [vAt_end l 0 i (by omega), vAt_end l (f + 1) i (by omega)]
  | f + 1, g + 1, i, hf, hg => by
    rw [vAt, vAt]
    have := dec_pos l i
    by_cases h : i < l.length
    · rw [if_pos h, if_pos h, vAt_fuel l f g _ (by omega) (by omega)]
    · rw [if_neg h, if_neg h]
/-- What is left to be said of l from place i on. -/
def vFrom (l : List UInt8) (i : Nat) : Bool := vAt l (l.length - i) i
theorem vFrom_zero (l : List UInt8) : vFrom l 0 = valid l := rfl
theorem vFrom_end {l : List UInt8} {i : Nat} (h : l.length ≤ i) : vFrom l i = true := vAt_end _ _ _ h
theorem vFrom_bad {l : List UInt8} {i : Nat} (h : i < l.length) (hb : bad l i = true) : vFrom l i = false := by
  unfold vFrom
  obtain ⟨f, hf⟩ : ∃ f, l.length - i = f + 1 := ⟨l.length - i - 1, by omega⟩
  rw [hf, vAt, if_pos h, hb]; rfl
theorem vFrom_step {l : List UInt8} {i : Nat} (h : i < l.length) (hb : bad l i = false) : vFrom l (i + (dec l i).2) = vFrom l i := by
  unfold vFrom
  obtain ⟨f, hf⟩ : ∃ f, l.length - i = f + 1 := ⟨l.length - i - 1, by omega⟩
  rw [hf, vAt, if_pos h, hb]
  have := dec_pos l i
  exact vAt_fuel l _ _ _ (by omega) (by omega)

/-- Do the three bytes of 0xFFFD stand at i? -/
def repl (l : List UInt8) (i : Nat) : Bool := (l.drop i).take 3 == [239, 191, 189]
theorem drop3 (l : List UInt8) (i : Nat) (h : i + 3 ≤ l.length) : (l.drop i).take 3 = [l.getD i 0, l.getD (i + 1) 0, l.getD (i + 2) 0] := by
  apply List.ext_getElem
  · simp; omega
  · intro j h1 h2
    simp at h2
    simp only [List.getElem_take, List.getElem_drop]
    match j, h2 with
    | 0, _ => simp [List.getD_eq_getElem?_getD, List.getElem?_eq_getElem (show i < l.length by omega)]
    | 1, _ => simp [List.getD_eq_getElem?_getD, List.getElem?_eq_getElem (show i + 1 < l.length by omega)]
    | 2, _ => simp [List.getD_eq_getElem?_getD, List.getElem?_eq_getElem (show i + 2 < l.length by omega)]
theorem u8_eq {a : UInt8} {n : Nat} (hn : n < 256) : a = UInt8.ofNat n ↔ a.toNat = n := by
  constructor
  · intro h; subst h; simp; omega
  · intro h; apply UInt8.toNat_inj.1; simp; omega
theorem getD_pos {l : List UInt8} {i n : Nat} (h : (l.getD i 0).toNat = n) (hn : 0 < n) : i < l.length := by
  rcases Nat.lt_or_ge i l.length with h' | h'
  · exact h'
  · rw [List.getD_eq_getElem?_getD, List.getElem?_eq_none h'] at h
    simp at h; omega
theorem repl_iff (l : List UInt8) (i : Nat) : repl l i = true ↔ (l.getD i 0).toNat = 239 ∧ (l.getD (i + 1) 0).toNat = 191 ∧ (l.getD (i + 2) 0).toNat = 189 := by
  unfold repl
  rw [beq_iff_eq]
  constructor
  · intro h
    have hl : i + 3 ≤ l.length := by
      have := congrArg List.length h
      simp at this; omega
    rw [drop3 l i hl] at h
    simp only [List.cons.injEq, and_true] at h
    obtain ⟨h1, h2, h3⟩ := h
    rw [h1, h2, h3]; decide
  · rintro ⟨h1, h2, h3⟩
    have hl : i + 2 < l.length := getD_pos h3 (by omega)
    rw [drop3 l i (by omega), (u8_eq (by omega)).2 h1, (u8_eq (by omega)).2 h2, (u8_eq (by omega)).2 h3]
    decide
/-- What the code tests is whether no rune begins there. -/
theorem bad_code (l : List UInt8) (i : Nat) (h : i < l.length) : bad l i = ((dec l i).1 == 65533 && !repl l i) := by
  have hb1 : (l.getD (i + 1) 0).toNat < 256 := (l.getD (i + 1) 0).toNat_lt
  have hb2 : (l.getD (i + 2) 0).toNat < 256 := (l.getD (i + 2) 0).toNat_lt
  have hb0 : (l.getD i 0).toNat < 256 := (l.getD i 0).toNat_lt
  have hr := repl_iff l i
  have hn2 : 2 < l.length - i ∨ (l.getD (i + 2) 0).toNat = 0 := by
    rcases Nat.lt_or_ge (i + 2) l.length with h' | h'
    · left; omega
    · right; rw [List.getD_eq_getElem?_getD, List.getElem?_eq_none h']; rfl
  rw [Bool.eq_iff_iff]
  simp only [bad, beq_iff_eq, Bool.and_eq_true, Bool.not_eq_true']
  rw [Bool.eq_false_iff, ne_eq, hr]
  unfold dec Lib.decodeN
  generalize (l.getD i 0).toNat = b0 at *
  generalize (l.getD (i + 1) 0).toNat = b1 at *
  generalize (l.getD (i + 2) 0).toNat = b2 at *
  generalize (l.getD (i + 3) 0).toNat = b3 at *
  clear hr
  repeat' split
  all_goals (simp only [Prod.mk.injEq]; try dsimp only)
  all_goals first | omega | (simp only [true_and, true_iff, not_and]; omega) | (simp; omega)

/-- The bytes of the rune n; none where n is no rune. -/
def isRuneN (n : Nat) : Bool := decide (n < 55296) || (decide (57344 ≤ n) && decide (n ≤ 1114111))
def formB (n : Nat) : List UInt8 :=
  if n < 128 then [UInt8.ofNat n]
  else if n < 2048 then [UInt8.ofNat (192 + n / 64), UInt8.ofNat (128 + n % 64)]
  else if n < 65536 then [UInt8.ofNat (224 + n / 4096), UInt8.ofNat (128 + n / 64 % 64), UInt8.ofNat (128 + n % 64)]
  else [UInt8.ofNat (240 + n / 262144), UInt8.ofNat (128 + n / 4096 % 64), UInt8.ofNat (128 + n / 64 % 64), UInt8.ofNat (128 + n % 64)]
theorem formB_len (n : Nat) : 1 ≤ (formB n).length ∧ (formB n).length ≤ 4 := by
  unfold formB; repeat' split
  all_goals simp

/-- A digit's value in base 16. -/
def digVal (c : UInt8) : Option Nat :=
  if 48 ≤ c.toNat ∧ c.toNat ≤ 57 then some (c.toNat - 48)
  else if 97 ≤ c.toNat ∧ c.toNat ≤ 102 then some (c.toNat - 87)
  else if 65 ≤ c.toNat ∧ c.toNat ≤ 70 then some (c.toNat - 55) else none
/-- The number of these digits, v being read already. -/
def digsGo (base : Nat) : Nat → List UInt8 → Option Nat
  | v, [] => some v
  | v, c :: r => match digVal c with
    | some d => if d < base then digsGo base (v * base + d) r else none
    | none => none
def digs (l : List UInt8) (n base : Nat) : Option Nat := if l.length < n then none else digsGo base 0 (l.take n)
/-- The same with the code's bound. -/
def digsGoB (base : Nat) : Nat → List UInt8 → Option Nat
  | v, [] => some v
  | v, c :: r => match digVal c with
    | some d => if d < base ∧ v ≤ 8388607 then digsGoB base (v * base + d) r else none
    | none => none
def digsB (l : List UInt8) (n base : Nat) : Option Nat := if l.length < n then none else digsGoB base 0 (l.take n)

/-- How many bytes a literal takes behind its opening quote. -/
def litGo (q : UInt8) : List UInt8 → Option Nat
  | [] => none
  | [c] => if c = q then some 1 else none
  | c :: d :: r =>
    if c = q then some 1
    else if q = 96 then (litGo q (d :: r)).map (· + 1)
    else if c = 10 then none
    else if c = 92 then (if d = 10 then none else (litGo q r).map (· + 2))
    else (litGo q (d :: r)).map (· + 1)
def isQuote (c : UInt8) : Bool := c == 34 || c == 39 || c == 96
/-- The place behind the literal at a place. -/
def litEnd (l : List UInt8) (i : Nat) : Option Nat := if i < l.length ∧ isQuote (atB l i) = true then (litGo (atB l i) (l.drop (i + 1))).map (· + (i + 1)) else none
/-- From place i on. -/
def litFrom (q : UInt8) (l : List UInt8) (i : Nat) : Option Nat := (litGo q (l.drop i)).map (· + i)
theorem map_add {o : Option Nat} {a b c : Nat} (h : c = a + b) : (o.map (· + a)).map (· + b) = o.map (· + c) := by
  cases o <;> simp; omega
theorem litFrom_end {q : UInt8} {l : List UInt8} {i : Nat} (h : l.length ≤ i) : litFrom q l i = none := by
  rw [litFrom, List.drop_eq_nil_of_le h]; rfl
theorem drop_at {l : List UInt8} {i : Nat} (h : i < l.length) : l.drop i = atB l i :: l.drop (i + 1) := by
  rw [List.drop_eq_getElem_cons h, atB, List.getD_eq_getElem?_getD, List.getElem?_eq_getElem h]; rfl
theorem litGo_q {q : UInt8} {r : List UInt8} : litGo q (q :: r) = some 1 := by
  cases r <;> simp [litGo]
theorem litFrom_hit {q : UInt8} {l : List UInt8} {i : Nat} (h : i < l.length) (hc : atB l i = q) : litFrom q l i = some (i + 1) := by
  rw [litFrom, drop_at h, hc, litGo_q]; simp; omega
theorem litGo_raw {c : UInt8} {r : List UInt8} (hc : c ≠ 96) : litGo 96 (c :: r) = (litGo 96 r).map (· + 1) := by
  cases r <;> simp [litGo, hc]
theorem litFrom_raw {l : List UInt8} {i : Nat} (h : i < l.length) (hc : atB l i ≠ 96) : litFrom 96 l i = litFrom 96 l (i + 1) := by
  rw [litFrom, drop_at h, litGo_raw hc, map_add (c := i + 1) (by omega)]; rfl
theorem litGo_nl {q : UInt8} {r : List UInt8} (h : q ≠ 96) (h2 : q ≠ 10) : litGo q (10 :: r) = none := by
  cases r <;> simp [litGo, h, h2.symm]
theorem litFrom_nl {q : UInt8} {l : List UInt8} {i : Nat} (h : i < l.length) (hq : q ≠ 96) (hq2 : atB l i ≠ q) (hc : atB l i = 10) : litFrom q l i = none := by
  rw [litFrom, drop_at h, hc, litGo_nl hq (by rw [← hc]; exact hq2.symm)]; rfl
theorem litGo_plain {q c : UInt8} {r : List UInt8} (h : q ≠ 96) (h1 : c ≠ q) (h2 : c ≠ 10) (h3 : c ≠ 92) : litGo q (c :: r) = (litGo q r).map (· + 1) := by
  cases r <;> simp [litGo, h, h1, h2, h3]
theorem litFrom_plain {q : UInt8} {l : List UInt8} {i : Nat} (h : i < l.length) (hq : q ≠ 96) (h1 : atB l i ≠ q) (h2 : atB l i ≠ 10) (h3 : atB l i ≠ 92) : litFrom q l i = litFrom q l (i + 1) := by
  rw [litFrom, drop_at h, litGo_plain hq h1 h2 h3, map_add (c := i + 1) (by omega)]; rfl
theorem litFrom_esc_end {q : UInt8} {l : List UInt8} {i : Nat} (h : i + 1 = l.length) (h1 : atB l i ≠ q) : litFrom q l i = none := by
  rw [litFrom, drop_at (by omega), List.drop_eq_nil_of_le (by omega)]
  simp [litGo, h1]
theorem litFrom_esc_nl {q : UInt8} {l : List UInt8} {i : Nat} (h : i + 1 < l.length) (hq : q ≠ 96) (h1 : atB l i ≠ q) (h2 : atB l i = 92) (h3 : atB l (i + 1) = 10) : litFrom q l i = none := by
  rw [litFrom, drop_at (by omega), drop_at h, h3]
  rw [h2] at h1 ⊢
  simp [litGo, h1, hq]
theorem litFrom_esc {q : UInt8} {l : List UInt8} {i : Nat} (h : i + 1 < l.length) (hq : q ≠ 96) (h1 : atB l i ≠ q) (h2 : atB l i = 92) (h3 : atB l (i + 1) ≠ 10) : litFrom q l i = litFrom q l (i + 2) := by
  rw [litFrom, drop_at (by omega), drop_at h]
  rw [h2] at h1 ⊢
  simp only [litGo, if_neg h1, if_neg hq, if_neg (show ¬ (92 : UInt8) = 10 by decide), if_pos, if_neg h3]
  rw [map_add (c := i + 2) (by omega)]; rfl

def plainB (c : UInt8) : UInt8 := if c = 97 then 7 else if c = 98 then 8 else if c = 116 then 9 else if c = 110 then 10 else if c = 118 then 11 else if c = 102 then 12 else 13
def isPlain (c : UInt8) : Bool := c == 97 || c == 98 || c == 116 || c == 110 || c == 118 || c == 102 || c == 114
/-- What an escape means: l stands behind the backslash, ahead of the closing quote q: its bytes, and how many of l it takes. -/
def escOut (q : UInt8) (l : List UInt8) : Option (List UInt8 × Nat) := match l with
  | [] => none
  | c :: r =>
    if isPlain c then some ([plainB c], 1)
    else if c = 92 ∨ c = q then some ([c], 1)
    else if c = 120 then (digs r 2 16).map fun v => ([UInt8.ofNat v], 3)
    else if c = 117 then (digs r 4 16).bind fun v => if isRuneN v then some (formB v, 5) else none
    else if c = 85 then (digs r 8 16).bind fun v => if isRuneN v then some (formB v, 9) else none
    else (digs (c :: r) 3 8).bind fun v => if v ≤ 255 then some ([UInt8.ofNat v], 3) else none
/-- The bytes of what stands between quotes. -/
def unesc (q : UInt8) : Nat → List UInt8 → Option (List UInt8)
  | 0, _ => some []
  | _ + 1, [] => some []
  | f + 1, c :: r => if c ≠ 92 then (unesc q f r).map (c :: ·) else
    match escOut q r with
    | none => none
    | some (b, n) => (unesc q f (r.drop n)).map (b ++ ·)
/-- What a literal means: 0 and its value, or an error's number. -/
def unquote (l : List UInt8) : Nat × List UInt8 :=
  if valid l = false then (4, [])
  else if litEnd l 0 ≠ some l.length then (10, [])
  else if atB l 0 = 96 then (0, (l.drop 1).take (l.length - 2))
  else match unesc (atB l 0) l.length ((l.drop 1).take (l.length - 2)) with
    | none => (11, [])
    | some b => if valid b then (0, b) else (13, [])
end Go.Proofs.YtpkeonafcldkhaaGreatDoor
