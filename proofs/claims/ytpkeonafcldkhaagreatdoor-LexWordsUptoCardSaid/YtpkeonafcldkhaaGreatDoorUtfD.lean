import Derived.Test.YtpkeonafcldkhaaGreatDoorUtfC
/- utf: escape. -/
set_option linter.unusedVariables false
set_option linter.unusedSimpArgs false
namespace Go.Proofs.YtpkeonafcldkhaaGreatDoor
open Go.RowKit

/-- What escape leaves. -/
def EscPost (w : World) (v : Value) (base k : Nat) (bs : List UInt8) (r : List UInt8 × Nat) (e : Ending) (w' : World) : Prop :=
  ∃ v', e = .returned (.tuple #[v', .int .i64 (r.2 : Int)]) ∧ w'.ownsRow base 5 1 v' (k + r.1.length) (cellsOf (bs ++ r.1)) ∧ w.grownBy w' v.ownBlock
theorem esc_same {w w' : World} {v : Value} {base k : Nat} {bs : List UInt8} (hown : w'.ownsRow base 5 1 v k (cellsOf bs)) (hg : w.grownBy w' v.ownBlock) : EscPost w v base k bs ([], 0) (.returned (.tuple #[v, .int .i64 0])) w' :=
  ⟨v, rfl, by simpa using hown, hg⟩
theorem esc_post {w w' : World} {v v' : Value} {base k : Nat} {bs new : List UInt8} {us : List Int} {n : Nat} {x : Int} (m : Nat) (hm : m = new.length) (hx : x = n) (hown : w'.ownsRow base 5 1 v' (k + m) (cellsOf bs ++ us.map (Value.int .u8))) (hg : w.grownBy w' v.ownBlock)
    (hu : us = new.map fun c => (c.toNat : Int)) : EscPost w v base k bs (new, n) (.returned (.tuple #[v', .int .i64 x])) w' := by
  subst hm hu hx
  refine ⟨v', rfl, ?_, hg⟩
  rw [cellsOf_append]
  simpa [cellsOf, List.map_map, Function.comp_def] using hown
theorem grown_below {w w' : World} (h : Below w.heap.size w w') (row : Option Nat) : w.grownBy w' row := ⟨h.os, h.tape, h.output, h.size, fun i hi _ => h.block i hi⟩
theorem own_below {w w' : World} {base : Nat} {v : Value} {k : Nat} {xs : List Value} (h : w.ownsRow base 5 1 v k xs) (hb : Below w.heap.size w w') : w'.ownsRow base 5 1 v k xs :=
  h.kept (grown_below hb none) (by cases v.ownBlock <;> simp)
theorem ne_facts {s : ByteArray} (h : 0 < s.size) : (s.toList == []) = false ∧ s.toList.isEmpty = false := by
  rw [ByteArray.toList_eq]
  have : 0 < s.data.toList.length := by rw [len_data]; exact h
  cases hl : s.data.toList with
  | nil => rw [hl] at this; simp at this
  | cons c r => exact ⟨rfl, rfl⟩
theorem head_eq {s : ByteArray} {c : UInt8} {r : List UInt8} (hl : s.data.toList = c :: r) (h0 : 0 < s.size) : s[0] = c := by
  rw [← gl s 0 (by rw [hl]; simp)]; simp [hl]
theorem tail_eq {s : ByteArray} {c : UInt8} {r : List UInt8} (hl : s.data.toList = c :: r) : (s.extract 1 s.size).data.toList = r := by
  rw [extract_from, hl]; rfl
set_option maxRecDepth 100000 in
theorem utf_escape_nil (q : UInt8) (w : World) (v : Value) (base k : Nat) (bs : List UInt8) (hown : w.ownsRow base 5 1 v k (cellsOf bs)) (hbase : base ≤ w.heap.size) (hk : k ≤ 281474976710) :
    Calls Tryz.prog 78 #[v, .string ⟨#[]⟩, .int .u8 (q.toNat : Int)] w (EscPost w v base k bs ([], 0)) := by
  have HO := Lib.hid hown
  clear hown
  go_enter Tryz.func78, Tryz.ntmps78
  go_wp2_with fail
  go_ret2
  exact esc_same HO.out (World.grownBy.refl _ _)
set_option maxRecDepth 100000 in
theorem utf_escape_97 (s : ByteArray) (q : UInt8) (w : World) (hs : s.size ≤ 281474976710656) (v : Value) (base k : Nat) (bs : List UInt8) (hown : w.ownsRow base 5 1 v k (cellsOf bs)) (hbase : base ≤ w.heap.size) (hk : k ≤ 281474976710) (h0 : 0 < s.size) (hv : s[0].toNat = 97) :
    Calls Tryz.prog 78 #[v, .string s, .int .u8 (q.toNat : Int)] w (EscPost w v base k bs ([7], 1)) := by
  have HV := Lib.hid hv
  have t97 : ((s[0].toNat : Int) == 97) = true := by rw [HV.out]; rfl
  have t98 : ((s[0].toNat : Int) == 98) = false := by rw [HV.out]; rfl
  have t116 : ((s[0].toNat : Int) == 116) = false := by rw [HV.out]; rfl
  have t110 : ((s[0].toNat : Int) == 110) = false := by rw [HV.out]; rfl
  have t118 : ((s[0].toNat : Int) == 118) = false := by rw [HV.out]; rfl
  have t102 : ((s[0].toNat : Int) == 102) = false := by rw [HV.out]; rfl
  have t114 : ((s[0].toNat : Int) == 114) = false := by rw [HV.out]; rfl
  have t92 : ((s[0].toNat : Int) == 92) = false := by rw [HV.out]; rfl
  have t120 : ((s[0].toNat : Int) == 120) = false := by rw [HV.out]; rfl
  have t117 : ((s[0].toNat : Int) == 117) = false := by rw [HV.out]; rfl
  have t85 : ((s[0].toNat : Int) == 85) = false := by rw [HV.out]; rfl
  have hp : plainB s[0] = 7 := by rw [u8_lit (n := 97) (by omega) hv]; rfl
  clear hv
  obtain ⟨e1, e2⟩ := ne_facts h0
  go_enter Tryz.func78, Tryz.ntmps78
  go_wp2_with (first | (go_at_call 106; refine (utf_plain _ _).mono ?_; rintro e w' ⟨rfl, rfl⟩; rw [hp]) | (at_builtin; refine wpList_pushN rfl (.tmp 45) (.tmp 48) 40 rfl base 5 (.int .u8 0) 1 1 info_u8 Tryz.underlying40 rfl (by omega) v k _ rfl hown 1 _ rfl rfl (ints1 [_]) (by unfold maxLen; omega) (by omega) hbase ?_))
  intro v' w1 ho hg
  have HO := Lib.hid ho
  have HG := Lib.hid hg
  clear ho hg hown
  go_wp2_with fail
  go_ret2
  exact esc_post (us := [7]) 1 rfl rfl HO.out HG.out rfl
set_option maxRecDepth 100000 in
theorem utf_escape_98 (s : ByteArray) (q : UInt8) (w : World) (hs : s.size ≤ 281474976710656) (v : Value) (base k : Nat) (bs : List UInt8) (hown : w.ownsRow base 5 1 v k (cellsOf bs)) (hbase : base ≤ w.heap.size) (hk : k ≤ 281474976710) (h0 : 0 < s.size) (hv : s[0].toNat = 98) :
    Calls Tryz.prog 78 #[v, .string s, .int .u8 (q.toNat : Int)] w (EscPost w v base k bs ([8], 1)) := by
  have HV := Lib.hid hv
  have t97 : ((s[0].toNat : Int) == 97) = false := by rw [HV.out]; rfl
  have t98 : ((s[0].toNat : Int) == 98) = true := by rw [HV.out]; rfl
  have t116 : ((s[0].toNat : Int) == 116) = false := by rw [HV.out]; rfl
  have t110 : ((s[0].toNat : Int) == 110) = false := by rw [HV.out]; rfl
  have t118 : ((s[0].toNat : Int) == 118) = false := by rw [HV.out]; rfl
  have t102 : ((s[0].toNat : Int) == 102) = false := by rw [HV.out]; rfl
  have t114 : ((s[0].toNat : Int) == 114) = false := by rw [HV.out]; rfl
  have t92 : ((s[0].toNat : Int) == 92) = false := by rw [HV.out]; rfl
  have t120 : ((s[0].toNat : Int) == 120) = false := by rw [HV.out]; rfl
  have t117 : ((s[0].toNat : Int) == 117) = false := by rw [HV.out]; rfl
  have t85 : ((s[0].toNat : Int) == 85) = false := by rw [HV.out]; rfl
  have hp : plainB s[0] = 8 := by rw [u8_lit (n := 98) (by omega) hv]; rfl
  clear hv
  obtain ⟨e1, e2⟩ := ne_facts h0
  go_enter Tryz.func78, Tryz.ntmps78
  go_wp2_with (first | (go_at_call 106; refine (utf_plain _ _).mono ?_; rintro e w' ⟨rfl, rfl⟩; rw [hp]) | (at_builtin; refine wpList_pushN rfl (.tmp 45) (.tmp 48) 40 rfl base 5 (.int .u8 0) 1 1 info_u8 Tryz.underlying40 rfl (by omega) v k _ rfl hown 1 _ rfl rfl (ints1 [_]) (by unfold maxLen; omega) (by omega) hbase ?_))
  intro v' w1 ho hg
  have HO := Lib.hid ho
  have HG := Lib.hid hg
  clear ho hg hown
  go_wp2_with fail
  go_ret2
  exact esc_post (us := [8]) 1 rfl rfl HO.out HG.out rfl
set_option maxRecDepth 100000 in
theorem utf_escape_116 (s : ByteArray) (q : UInt8) (w : World) (hs : s.size ≤ 281474976710656) (v : Value) (base k : Nat) (bs : List UInt8) (hown : w.ownsRow base 5 1 v k (cellsOf bs)) (hbase : base ≤ w.heap.size) (hk : k ≤ 281474976710) (h0 : 0 < s.size) (hv : s[0].toNat = 116) :
    Calls Tryz.prog 78 #[v, .string s, .int .u8 (q.toNat : Int)] w (EscPost w v base k bs ([9], 1)) := by
  have HV := Lib.hid hv
  have t97 : ((s[0].toNat : Int) == 97) = false := by rw [HV.out]; rfl
  have t98 : ((s[0].toNat : Int) == 98) = false := by rw [HV.out]; rfl
  have t116 : ((s[0].toNat : Int) == 116) = true := by rw [HV.out]; rfl
  have t110 : ((s[0].toNat : Int) == 110) = false := by rw [HV.out]; rfl
  have t118 : ((s[0].toNat : Int) == 118) = false := by rw [HV.out]; rfl
  have t102 : ((s[0].toNat : Int) == 102) = false := by rw [HV.out]; rfl
  have t114 : ((s[0].toNat : Int) == 114) = false := by rw [HV.out]; rfl
  have t92 : ((s[0].toNat : Int) == 92) = false := by rw [HV.out]; rfl
  have t120 : ((s[0].toNat : Int) == 120) = false := by rw [HV.out]; rfl
  have t117 : ((s[0].toNat : Int) == 117) = false := by rw [HV.out]; rfl
  have t85 : ((s[0].toNat : Int) == 85) = false := by rw [HV.out]; rfl
  have hp : plainB s[0] = 9 := by rw [u8_lit (n := 116) (by omega) hv]; rfl
  clear hv
  obtain ⟨e1, e2⟩ := ne_facts h0
  go_enter Tryz.func78, Tryz.ntmps78
  go_wp2_with (first | (go_at_call 106; refine (utf_plain _ _).mono ?_; rintro e w' ⟨rfl, rfl⟩; rw [hp]) | (at_builtin; refine wpList_pushN rfl (.tmp 45) (.tmp 48) 40 rfl base 5 (.int .u8 0) 1 1 info_u8 Tryz.underlying40 rfl (by omega) v k _ rfl hown 1 _ rfl rfl (ints1 [_]) (by unfold maxLen; omega) (by omega) hbase ?_))
  intro v' w1 ho hg
  have HO := Lib.hid ho
  have HG := Lib.hid hg
  clear ho hg hown
  go_wp2_with fail
  go_ret2
  exact esc_post (us := [9]) 1 rfl rfl HO.out HG.out rfl
set_option maxRecDepth 100000 in
theorem utf_escape_110 (s : ByteArray) (q : UInt8) (w : World) (hs : s.size ≤ 281474976710656) (v : Value) (base k : Nat) (bs : List UInt8) (hown : w.ownsRow base 5 1 v k (cellsOf bs)) (hbase : base ≤ w.heap.size) (hk : k ≤ 281474976710) (h0 : 0 < s.size) (hv : s[0].toNat = 110) :
    Calls Tryz.prog 78 #[v, .string s, .int .u8 (q.toNat : Int)] w (EscPost w v base k bs ([10], 1)) := by
  have HV := Lib.hid hv
  have t97 : ((s[0].toNat : Int) == 97) = false := by rw [HV.out]; rfl
  have t98 : ((s[0].toNat : Int) == 98) = false := by rw [HV.out]; rfl
  have t116 : ((s[0].toNat : Int) == 116) = false := by rw [HV.out]; rfl
  have t110 : ((s[0].toNat : Int) == 110) = true := by rw [HV.out]; rfl
  have t118 : ((s[0].toNat : Int) == 118) = false := by rw [HV.out]; rfl
  have t102 : ((s[0].toNat : Int) == 102) = false := by rw [HV.out]; rfl
  have t114 : ((s[0].toNat : Int) == 114) = false := by rw [HV.out]; rfl
  have t92 : ((s[0].toNat : Int) == 92) = false := by rw [HV.out]; rfl
  have t120 : ((s[0].toNat : Int) == 120) = false := by rw [HV.out]; rfl
  have t117 : ((s[0].toNat : Int) == 117) = false := by rw [HV.out]; rfl
  have t85 : ((s[0].toNat : Int) == 85) = false := by rw [HV.out]; rfl
  have hp : plainB s[0] = 10 := by rw [u8_lit (n := 110) (by omega) hv]; rfl
  clear hv
  obtain ⟨e1, e2⟩ := ne_facts h0
  go_enter Tryz.func78, Tryz.ntmps78
  go_wp2_with (first | (go_at_call 106; refine (utf_plain _ _).mono ?_; rintro e w' ⟨rfl, rfl⟩; rw [hp]) | (at_builtin; refine wpList_pushN rfl (.tmp 45) (.tmp 48) 40 rfl base 5 (.int .u8 0) 1 1 info_u8 Tryz.underlying40 rfl (by omega) v k _ rfl hown 1 _ rfl rfl (ints1 [_]) (by unfold maxLen; omega) (by omega) hbase ?_))
  intro v' w1 ho hg
  have HO := Lib.hid ho
  have HG := Lib.hid hg
  clear ho hg hown
  go_wp2_with fail
  go_ret2
  exact esc_post (us := [10]) 1 rfl rfl HO.out HG.out rfl
set_option maxRecDepth 100000 in
theorem utf_escape_118 (s : ByteArray) (q : UInt8) (w : World) (hs : s.size ≤ 281474976710656) (v : Value) (base k : Nat) (bs : List UInt8) (hown : w.ownsRow base 5 1 v k (cellsOf bs)) (hbase : base ≤ w.heap.size) (hk : k ≤ 281474976710) (h0 : 0 < s.size) (hv : s[0].toNat = 118) :
    Calls Tryz.prog 78 #[v, .string s, .int .u8 (q.toNat : Int)] w (EscPost w v base k bs ([11], 1)) := by
  have HV := Lib.hid hv
  have t97 : ((s[0].toNat : Int) == 97) = false := by rw [HV.out]; rfl
  have t98 : ((s[0].toNat : Int) == 98) = false := by rw [HV.out]; rfl
  have t116 : ((s[0].toNat : Int) == 116) = false := by rw [HV.out]; rfl
  have t110 : ((s[0].toNat : Int) == 110) = false := by rw [HV.out]; rfl
  have t118 : ((s[0].toNat : Int) == 118) = true := by rw [HV.out]; rfl
  have t102 : ((s[0].toNat : Int) == 102) = false := by rw [HV.out]; rfl
  have t114 : ((s[0].toNat : Int) == 114) = false := by rw [HV.out]; rfl
  have t92 : ((s[0].toNat : Int) == 92) = false := by rw [HV.out]; rfl
  have t120 : ((s[0].toNat : Int) == 120) = false := by rw [HV.out]; rfl
  have t117 : ((s[0].toNat : Int) == 117) = false := by rw [HV.out]; rfl
  have t85 : ((s[0].toNat : Int) == 85) = false := by rw [HV.out]; rfl
  have hp : plainB s[0] = 11 := by rw [u8_lit (n := 118) (by omega) hv]; rfl
  clear hv
  obtain ⟨e1, e2⟩ := ne_facts h0
  go_enter Tryz.func78, Tryz.ntmps78
  go_wp2_with (first | (go_at_call 106; refine (utf_plain _ _).mono ?_; rintro e w' ⟨rfl, rfl⟩; rw [hp]) | (at_builtin; refine wpList_pushN rfl (.tmp 45) (.tmp 48) 40 rfl base 5 (.int .u8 0) 1 1 info_u8 Tryz.underlying40 rfl (by omega) v k _ rfl hown 1 _ rfl rfl (ints1 [_]) (by unfold maxLen; omega) (by omega) hbase ?_))
  intro v' w1 ho hg
  have HO := Lib.hid ho
  have HG := Lib.hid hg
  clear ho hg hown
  go_wp2_with fail
  go_ret2
  exact esc_post (us := [11]) 1 rfl rfl HO.out HG.out rfl
set_option maxRecDepth 100000 in
theorem utf_escape_102 (s : ByteArray) (q : UInt8) (w : World) (hs : s.size ≤ 281474976710656) (v : Value) (base k : Nat) (bs : List UInt8) (hown : w.ownsRow base 5 1 v k (cellsOf bs)) (hbase : base ≤ w.heap.size) (hk : k ≤ 281474976710) (h0 : 0 < s.size) (hv : s[0].toNat = 102) :
    Calls Tryz.prog 78 #[v, .string s, .int .u8 (q.toNat : Int)] w (EscPost w v base k bs ([12], 1)) := by
  have HV := Lib.hid hv
  have t97 : ((s[0].toNat : Int) == 97) = false := by rw [HV.out]; rfl
  have t98 : ((s[0].toNat : Int) == 98) = false := by rw [HV.out]; rfl
  have t116 : ((s[0].toNat : Int) == 116) = false := by rw [HV.out]; rfl
  have t110 : ((s[0].toNat : Int) == 110) = false := by rw [HV.out]; rfl
  have t118 : ((s[0].toNat : Int) == 118) = false := by rw [HV.out]; rfl
  have t102 : ((s[0].toNat : Int) == 102) = true := by rw [HV.out]; rfl
  have t114 : ((s[0].toNat : Int) == 114) = false := by rw [HV.out]; rfl
  have t92 : ((s[0].toNat : Int) == 92) = false := by rw [HV.out]; rfl
  have t120 : ((s[0].toNat : Int) == 120) = false := by rw [HV.out]; rfl
  have t117 : ((s[0].toNat : Int) == 117) = false := by rw [HV.out]; rfl
  have t85 : ((s[0].toNat : Int) == 85) = false := by rw [HV.out]; rfl
  have hp : plainB s[0] = 12 := by rw [u8_lit (n := 102) (by omega) hv]; rfl
  clear hv
  obtain ⟨e1, e2⟩ := ne_facts h0
  go_enter Tryz.func78, Tryz.ntmps78
  go_wp2_with (first | (go_at_call 106; refine (utf_plain _ _).mono ?_; rintro e w' ⟨rfl, rfl⟩; rw [hp]) | (at_builtin; refine wpList_pushN rfl (.tmp 45) (.tmp 48) 40 rfl base 5 (.int .u8 0) 1 1 info_u8 Tryz.underlying40 rfl (by omega) v k _ rfl hown 1 _ rfl rfl (ints1 [_]) (by unfold maxLen; omega) (by omega) hbase ?_))
  intro v' w1 ho hg
  have HO := Lib.hid ho
  have HG := Lib.hid hg
  clear ho hg hown
  go_wp2_with fail
  go_ret2
  exact esc_post (us := [12]) 1 rfl rfl HO.out HG.out rfl
set_option maxRecDepth 100000 in
theorem utf_escape_114 (s : ByteArray) (q : UInt8) (w : World) (hs : s.size ≤ 281474976710656) (v : Value) (base k : Nat) (bs : List UInt8) (hown : w.ownsRow base 5 1 v k (cellsOf bs)) (hbase : base ≤ w.heap.size) (hk : k ≤ 281474976710) (h0 : 0 < s.size) (hv : s[0].toNat = 114) :
    Calls Tryz.prog 78 #[v, .string s, .int .u8 (q.toNat : Int)] w (EscPost w v base k bs ([13], 1)) := by
  have HV := Lib.hid hv
  have t97 : ((s[0].toNat : Int) == 97) = false := by rw [HV.out]; rfl
  have t98 : ((s[0].toNat : Int) == 98) = false := by rw [HV.out]; rfl
  have t116 : ((s[0].toNat : Int) == 116) = false := by rw [HV.out]; rfl
  have t110 : ((s[0].toNat : Int) == 110) = false := by rw [HV.out]; rfl
  have t118 : ((s[0].toNat : Int) == 118) = false := by rw [HV.out]; rfl
  have t102 : ((s[0].toNat : Int) == 102) = false := by rw [HV.out]; rfl
  have t114 : ((s[0].toNat : Int) == 114) = true := by rw [HV.out]; rfl
  have t92 : ((s[0].toNat : Int) == 92) = false := by rw [HV.out]; rfl
  have t120 : ((s[0].toNat : Int) == 120) = false := by rw [HV.out]; rfl
  have t117 : ((s[0].toNat : Int) == 117) = false := by rw [HV.out]; rfl
  have t85 : ((s[0].toNat : Int) == 85) = false := by rw [HV.out]; rfl
  have hp : plainB s[0] = 13 := by rw [u8_lit (n := 114) (by omega) hv]; rfl
  clear hv
  obtain ⟨e1, e2⟩ := ne_facts h0
  go_enter Tryz.func78, Tryz.ntmps78
  go_wp2_with (first | (go_at_call 106; refine (utf_plain _ _).mono ?_; rintro e w' ⟨rfl, rfl⟩; rw [hp]) | (at_builtin; refine wpList_pushN rfl (.tmp 45) (.tmp 48) 40 rfl base 5 (.int .u8 0) 1 1 info_u8 Tryz.underlying40 rfl (by omega) v k _ rfl hown 1 _ rfl rfl (ints1 [_]) (by unfold maxLen; omega) (by omega) hbase ?_))
  intro v' w1 ho hg
  have HO := Lib.hid ho
  have HG := Lib.hid hg
  clear ho hg hown
  go_wp2_with fail
  go_ret2
  exact esc_post (us := [13]) 1 rfl rfl HO.out HG.out rfl
set_option maxRecDepth 100000 in
theorem utf_escape_bs (s : ByteArray) (q : UInt8) (w : World) (hs : s.size ≤ 281474976710656) (v : Value) (base k : Nat) (bs : List UInt8) (hown : w.ownsRow base 5 1 v k (cellsOf bs)) (hbase : base ≤ w.heap.size) (hk : k ≤ 281474976710) (h0 : 0 < s.size) (hv : s[0].toNat = 92) :
    Calls Tryz.prog 78 #[v, .string s, .int .u8 (q.toNat : Int)] w (EscPost w v base k bs ([s[0]], 1)) := by
  have HV := Lib.hid hv
  have t97 : ((s[0].toNat : Int) == 97) = false := by rw [HV.out]; rfl
  have t98 : ((s[0].toNat : Int) == 98) = false := by rw [HV.out]; rfl
  have t116 : ((s[0].toNat : Int) == 116) = false := by rw [HV.out]; rfl
  have t110 : ((s[0].toNat : Int) == 110) = false := by rw [HV.out]; rfl
  have t118 : ((s[0].toNat : Int) == 118) = false := by rw [HV.out]; rfl
  have t102 : ((s[0].toNat : Int) == 102) = false := by rw [HV.out]; rfl
  have t114 : ((s[0].toNat : Int) == 114) = false := by rw [HV.out]; rfl
  have t92 : ((s[0].toNat : Int) == 92) = true := by rw [HV.out]; rfl
  have t120 : ((s[0].toNat : Int) == 120) = false := by rw [HV.out]; rfl
  have t117 : ((s[0].toNat : Int) == 117) = false := by rw [HV.out]; rfl
  have t85 : ((s[0].toNat : Int) == 85) = false := by rw [HV.out]; rfl
  clear hv
  obtain ⟨e1, e2⟩ := ne_facts h0
  go_enter Tryz.func78, Tryz.ntmps78
  go_wp2_with (at_builtin; refine wpList_pushN rfl (.tmp 54) (.tmp 56) 40 rfl base 5 (.int .u8 0) 1 1 info_u8 Tryz.underlying40 rfl (by omega) v k _ rfl hown 1 _ rfl rfl (ints1 [_]) (by unfold maxLen; omega) (by omega) hbase ?_)
  intro v' w1 ho hg
  have HO := Lib.hid ho
  have HG := Lib.hid hg
  clear ho hg hown
  go_wp2_with fail
  go_ret2
  exact esc_post (us := [(s[0].toNat : Int)]) 1 rfl rfl HO.out HG.out rfl
set_option maxRecDepth 100000 in
theorem utf_escape_q (s : ByteArray) (q : UInt8) (w : World) (hs : s.size ≤ 281474976710656) (v : Value) (base k : Nat) (bs : List UInt8) (hown : w.ownsRow base 5 1 v k (cellsOf bs)) (hbase : base ≤ w.heap.size) (hk : k ≤ 281474976710) (h0 : 0 < s.size) (hn : ∀ t ∈ [97, 98, 116, 110, 118, 102, 114, 92], s[0].toNat ≠ t) (hq : s[0] = q) :
    Calls Tryz.prog 78 #[v, .string s, .int .u8 (q.toNat : Int)] w (EscPost w v base k bs ([s[0]], 1)) := by
  have t97 : ((s[0].toNat : Int) == 97) = false := by rw [beq_eq_false_iff_ne]; have := hn 97 (by simp); omega
  have t98 : ((s[0].toNat : Int) == 98) = false := by rw [beq_eq_false_iff_ne]; have := hn 98 (by simp); omega
  have t116 : ((s[0].toNat : Int) == 116) = false := by rw [beq_eq_false_iff_ne]; have := hn 116 (by simp); omega
  have t110 : ((s[0].toNat : Int) == 110) = false := by rw [beq_eq_false_iff_ne]; have := hn 110 (by simp); omega
  have t118 : ((s[0].toNat : Int) == 118) = false := by rw [beq_eq_false_iff_ne]; have := hn 118 (by simp); omega
  have t102 : ((s[0].toNat : Int) == 102) = false := by rw [beq_eq_false_iff_ne]; have := hn 102 (by simp); omega
  have t114 : ((s[0].toNat : Int) == 114) = false := by rw [beq_eq_false_iff_ne]; have := hn 114 (by simp); omega
  have t92 : ((s[0].toNat : Int) == 92) = false := by rw [beq_eq_false_iff_ne]; have := hn 92 (by simp); omega
  have tq : ((s[0].toNat : Int) == (q.toNat : Int)) = true := by rw [hq]; simp
  clear hn hq
  obtain ⟨e1, e2⟩ := ne_facts h0
  go_enter Tryz.func78, Tryz.ntmps78
  go_wp2_with (at_builtin; refine wpList_pushN rfl (.tmp 54) (.tmp 56) 40 rfl base 5 (.int .u8 0) 1 1 info_u8 Tryz.underlying40 rfl (by omega) v k _ rfl hown 1 _ rfl rfl (ints1 [_]) (by unfold maxLen; omega) (by omega) hbase ?_)
  intro v' w1 ho hg
  have HO := Lib.hid ho
  have HG := Lib.hid hg
  clear ho hg hown
  go_wp2_with fail
  go_ret2
  exact esc_post (us := [(s[0].toNat : Int)]) 1 rfl rfl HO.out HG.out rfl
set_option maxRecDepth 100000 in
theorem utf_escape_x_no (s : ByteArray) (q : UInt8) (w : World) (hs : s.size ≤ 281474976710656) (v : Value) (base k : Nat) (bs : List UInt8) (hown : w.ownsRow base 5 1 v k (cellsOf bs)) (hbase : base ≤ w.heap.size) (hk : k ≤ 281474976710) (h0 : 0 < s.size) (hv : s[0].toNat = 120) (hq : s[0] ≠ q) (hd : digsB (s.extract 1 s.size).data.toList 2 16 = none) :
    Calls Tryz.prog 78 #[v, .string s, .int .u8 (q.toNat : Int)] w (EscPost w v base k bs ([], 0)) := by
  have HV := Lib.hid hv
  have t97 : ((s[0].toNat : Int) == 97) = false := by rw [HV.out]; rfl
  have t98 : ((s[0].toNat : Int) == 98) = false := by rw [HV.out]; rfl
  have t116 : ((s[0].toNat : Int) == 116) = false := by rw [HV.out]; rfl
  have t110 : ((s[0].toNat : Int) == 110) = false := by rw [HV.out]; rfl
  have t118 : ((s[0].toNat : Int) == 118) = false := by rw [HV.out]; rfl
  have t102 : ((s[0].toNat : Int) == 102) = false := by rw [HV.out]; rfl
  have t114 : ((s[0].toNat : Int) == 114) = false := by rw [HV.out]; rfl
  have t92 : ((s[0].toNat : Int) == 92) = false := by rw [HV.out]; rfl
  have t120 : ((s[0].toNat : Int) == 120) = true := by rw [HV.out]; rfl
  have t117 : ((s[0].toNat : Int) == 117) = false := by rw [HV.out]; rfl
  have t85 : ((s[0].toNat : Int) == 85) = false := by rw [HV.out]; rfl
  have tq : ((s[0].toNat : Int) == (q.toNat : Int)) = false := by rw [beq_eq_false_iff_ne]; intro e; exact hq (UInt8.toNat_inj.1 (by omega))
  have hex : (s.extract 1 s.size).size ≤ 281474976710656 := by simp; omega
  clear hv hq
  have HD := Lib.hid hd
  have HX := Lib.hid hex
  clear hd hex
  obtain ⟨e1, e2⟩ := ne_facts h0
  go_enter Tryz.func78, Tryz.ntmps78
  go_wp2_with fail
  refine (utf_digits (s.extract 1 s.size) _ 2 (by omega) _ 16 (by omega) _ HX.out (by omega) (.inr rfl)).mono ?_
  rintro e w1 ⟨rfl, hb⟩
  rw [HD.out]
  have hown1 := own_below hown hb
  have hbase1 := Nat.le_trans hbase hb.size
  have HB := Lib.hid hb
  have HOW := Lib.hid hown1
  clear hown hb
  clear hown1
  go_wp2_with fail
  go_ret2
  exact esc_same HOW.out (grown_below HB.out _)
set_option maxRecDepth 100000 in
theorem utf_escape_x_yes (s : ByteArray) (q : UInt8) (w : World) (hs : s.size ≤ 281474976710656) (v : Value) (base k : Nat) (bs : List UInt8) (hown : w.ownsRow base 5 1 v k (cellsOf bs)) (hbase : base ≤ w.heap.size) (hk : k ≤ 281474976710) (h0 : 0 < s.size) (hv : s[0].toNat = 120) (hq : s[0] ≠ q) (V : Nat) (hV : V < 256) (hd : digsB (s.extract 1 s.size).data.toList 2 16 = some V) :
    Calls Tryz.prog 78 #[v, .string s, .int .u8 (q.toNat : Int)] w (EscPost w v base k bs ([UInt8.ofNat V], 3)) := by
  have HV := Lib.hid hv
  have t97 : ((s[0].toNat : Int) == 97) = false := by rw [HV.out]; rfl
  have t98 : ((s[0].toNat : Int) == 98) = false := by rw [HV.out]; rfl
  have t116 : ((s[0].toNat : Int) == 116) = false := by rw [HV.out]; rfl
  have t110 : ((s[0].toNat : Int) == 110) = false := by rw [HV.out]; rfl
  have t118 : ((s[0].toNat : Int) == 118) = false := by rw [HV.out]; rfl
  have t102 : ((s[0].toNat : Int) == 102) = false := by rw [HV.out]; rfl
  have t114 : ((s[0].toNat : Int) == 114) = false := by rw [HV.out]; rfl
  have t92 : ((s[0].toNat : Int) == 92) = false := by rw [HV.out]; rfl
  have t120 : ((s[0].toNat : Int) == 120) = true := by rw [HV.out]; rfl
  have t117 : ((s[0].toNat : Int) == 117) = false := by rw [HV.out]; rfl
  have t85 : ((s[0].toNat : Int) == 85) = false := by rw [HV.out]; rfl
  have tq : ((s[0].toNat : Int) == (q.toNat : Int)) = false := by rw [beq_eq_false_iff_ne]; intro e; exact hq (UInt8.toNat_inj.1 (by omega))
  have hex : (s.extract 1 s.size).size ≤ 281474976710656 := by simp; omega
  clear hv hq
  have HD := Lib.hid hd
  have HX := Lib.hid hex
  clear hd hex
  obtain ⟨e1, e2⟩ := ne_facts h0
  go_enter Tryz.func78, Tryz.ntmps78
  go_wp2_with fail
  refine (utf_digits (s.extract 1 s.size) _ 2 (by omega) _ 16 (by omega) _ HX.out (by omega) (.inr rfl)).mono ?_
  rintro e w1 ⟨rfl, hb⟩
  rw [HD.out]
  have hown1 := own_below hown hb
  have hbase1 := Nat.le_trans hbase hb.size
  have HB := Lib.hid hb
  have HOW := Lib.hid hown1
  clear hown hb
  clear HOW
  simp only [optN, Option.isSome]
  go_wp2_with (at_builtin; refine wpList_pushN rfl (.tmp 67) (.tmp 70) 40 rfl base 5 (.int .u8 0) 1 1 info_u8 Tryz.underlying40 rfl (by omega) v k _ rfl hown1 1 _ rfl rfl (ints1 [_]) (by unfold maxLen; omega) (by omega) hbase1 ?_)
  intro v' w2 ho hg
  have HO := Lib.hid ho
  have HG := Lib.hid hg
  clear ho hg hown1
  go_wp2_with fail
  go_ret2
  exact esc_post (us := [(V : Int)]) 1 rfl rfl HO.out (grow_trans (grown_below HB.out _) HG.out) (by simp; omega)
set_option maxRecDepth 100000 in
theorem utf_escape_117_no (s : ByteArray) (q : UInt8) (w : World) (hs : s.size ≤ 281474976710656) (v : Value) (base k : Nat) (bs : List UInt8) (hown : w.ownsRow base 5 1 v k (cellsOf bs)) (hbase : base ≤ w.heap.size) (hk : k ≤ 281474976710) (h0 : 0 < s.size) (hv : s[0].toNat = 117) (hq : s[0] ≠ q) (hd : digsB (s.extract 1 s.size).data.toList 4 16 = none) :
    Calls Tryz.prog 78 #[v, .string s, .int .u8 (q.toNat : Int)] w (EscPost w v base k bs ([], 0)) := by
  have HV := Lib.hid hv
  have t97 : ((s[0].toNat : Int) == 97) = false := by rw [HV.out]; rfl
  have t98 : ((s[0].toNat : Int) == 98) = false := by rw [HV.out]; rfl
  have t116 : ((s[0].toNat : Int) == 116) = false := by rw [HV.out]; rfl
  have t110 : ((s[0].toNat : Int) == 110) = false := by rw [HV.out]; rfl
  have t118 : ((s[0].toNat : Int) == 118) = false := by rw [HV.out]; rfl
  have t102 : ((s[0].toNat : Int) == 102) = false := by rw [HV.out]; rfl
  have t114 : ((s[0].toNat : Int) == 114) = false := by rw [HV.out]; rfl
  have t92 : ((s[0].toNat : Int) == 92) = false := by rw [HV.out]; rfl
  have t120 : ((s[0].toNat : Int) == 120) = false := by rw [HV.out]; rfl
  have t117 : ((s[0].toNat : Int) == 117) = true := by rw [HV.out]; rfl
  have t85 : ((s[0].toNat : Int) == 85) = false := by rw [HV.out]; rfl
  have tq : ((s[0].toNat : Int) == (q.toNat : Int)) = false := by rw [beq_eq_false_iff_ne]; intro e; exact hq (UInt8.toNat_inj.1 (by omega))
  have hex : (s.extract 1 s.size).size ≤ 281474976710656 := by simp; omega
  clear hv hq
  have HD := Lib.hid hd
  have HX := Lib.hid hex
  clear hd hex
  obtain ⟨e1, e2⟩ := ne_facts h0
  go_enter Tryz.func78, Tryz.ntmps78
  go_wp2_with fail
  refine (utf_digits (s.extract 1 s.size) _ 4 (by omega) _ 16 (by omega) _ HX.out (by omega) (.inr rfl)).mono ?_
  rintro e w1 ⟨rfl, hb⟩
  rw [HD.out]
  have hown1 := own_below hown hb
  have hbase1 := Nat.le_trans hbase hb.size
  have HB := Lib.hid hb
  clear hown hb
  simp only [optN, Option.isSome]
  have HOW := Lib.hid hown1
  clear hown1
  go_wp2_with fail
  go_ret2
  exact esc_same HOW.out (grown_below HB.out _)
set_option maxRecDepth 100000 in
theorem utf_escape_117_nor (s : ByteArray) (q : UInt8) (w : World) (hs : s.size ≤ 281474976710656) (v : Value) (base k : Nat) (bs : List UInt8) (hown : w.ownsRow base 5 1 v k (cellsOf bs)) (hbase : base ≤ w.heap.size) (hk : k ≤ 281474976710) (h0 : 0 < s.size) (hv : s[0].toNat = 117) (hq : s[0] ≠ q) (V : Nat) (hV : isRuneN V = false) (hV2 : (V : Int) ≤ 134217727) (hd : digsB (s.extract 1 s.size).data.toList 4 16 = some V) :
    Calls Tryz.prog 78 #[v, .string s, .int .u8 (q.toNat : Int)] w (EscPost w v base k bs ([], 0)) := by
  have HV := Lib.hid hv
  have t97 : ((s[0].toNat : Int) == 97) = false := by rw [HV.out]; rfl
  have t98 : ((s[0].toNat : Int) == 98) = false := by rw [HV.out]; rfl
  have t116 : ((s[0].toNat : Int) == 116) = false := by rw [HV.out]; rfl
  have t110 : ((s[0].toNat : Int) == 110) = false := by rw [HV.out]; rfl
  have t118 : ((s[0].toNat : Int) == 118) = false := by rw [HV.out]; rfl
  have t102 : ((s[0].toNat : Int) == 102) = false := by rw [HV.out]; rfl
  have t114 : ((s[0].toNat : Int) == 114) = false := by rw [HV.out]; rfl
  have t92 : ((s[0].toNat : Int) == 92) = false := by rw [HV.out]; rfl
  have t120 : ((s[0].toNat : Int) == 120) = false := by rw [HV.out]; rfl
  have t117 : ((s[0].toNat : Int) == 117) = true := by rw [HV.out]; rfl
  have t85 : ((s[0].toNat : Int) == 85) = false := by rw [HV.out]; rfl
  have tq : ((s[0].toNat : Int) == (q.toNat : Int)) = false := by rw [beq_eq_false_iff_ne]; intro e; exact hq (UInt8.toNat_inj.1 (by omega))
  have hex : (s.extract 1 s.size).size ≤ 281474976710656 := by simp; omega
  clear hv hq
  have HD := Lib.hid hd
  have HX := Lib.hid hex
  clear hd hex
  obtain ⟨e1, e2⟩ := ne_facts h0
  go_enter Tryz.func78, Tryz.ntmps78
  go_wp2_with fail
  refine (utf_digits (s.extract 1 s.size) _ 4 (by omega) _ 16 (by omega) _ HX.out (by omega) (.inr rfl)).mono ?_
  rintro e w1 ⟨rfl, hb⟩
  rw [HD.out]
  have hown1 := own_below hown hb
  have hbase1 := Nat.le_trans hbase hb.size
  have HB := Lib.hid hb
  clear hown hb
  simp only [optN, Option.isSome]
  have HOW := Lib.hid hown1
  clear hown1
  go_wp2_with fail
  refine (utf_isRune V _).mono ?_
  rintro e w' ⟨rfl, rfl⟩
  rw [hV]
  go_wp2_with fail
  go_ret2
  exact esc_same HOW.out (grown_below HB.out _)
set_option maxRecDepth 100000 in
theorem utf_escape_117_yes (s : ByteArray) (q : UInt8) (w : World) (hs : s.size ≤ 281474976710656) (v : Value) (base k : Nat) (bs : List UInt8) (hown : w.ownsRow base 5 1 v k (cellsOf bs)) (hbase : base ≤ w.heap.size) (hk : k ≤ 281474976710) (h0 : 0 < s.size) (hv : s[0].toNat = 117) (hq : s[0] ≠ q) (V : Nat) (hV : isRuneN V = true) (hd : digsB (s.extract 1 s.size).data.toList 4 16 = some V) :
    Calls Tryz.prog 78 #[v, .string s, .int .u8 (q.toNat : Int)] w (EscPost w v base k bs (formB V, 5)) := by
  have HV := Lib.hid hv
  have t97 : ((s[0].toNat : Int) == 97) = false := by rw [HV.out]; rfl
  have t98 : ((s[0].toNat : Int) == 98) = false := by rw [HV.out]; rfl
  have t116 : ((s[0].toNat : Int) == 116) = false := by rw [HV.out]; rfl
  have t110 : ((s[0].toNat : Int) == 110) = false := by rw [HV.out]; rfl
  have t118 : ((s[0].toNat : Int) == 118) = false := by rw [HV.out]; rfl
  have t102 : ((s[0].toNat : Int) == 102) = false := by rw [HV.out]; rfl
  have t114 : ((s[0].toNat : Int) == 114) = false := by rw [HV.out]; rfl
  have t92 : ((s[0].toNat : Int) == 92) = false := by rw [HV.out]; rfl
  have t120 : ((s[0].toNat : Int) == 120) = false := by rw [HV.out]; rfl
  have t117 : ((s[0].toNat : Int) == 117) = true := by rw [HV.out]; rfl
  have t85 : ((s[0].toNat : Int) == 85) = false := by rw [HV.out]; rfl
  have tq : ((s[0].toNat : Int) == (q.toNat : Int)) = false := by rw [beq_eq_false_iff_ne]; intro e; exact hq (UInt8.toNat_inj.1 (by omega))
  have hex : (s.extract 1 s.size).size ≤ 281474976710656 := by simp; omega
  clear hv hq
  have HD := Lib.hid hd
  have HX := Lib.hid hex
  clear hd hex
  obtain ⟨e1, e2⟩ := ne_facts h0
  go_enter Tryz.func78, Tryz.ntmps78
  go_wp2_with fail
  refine (utf_digits (s.extract 1 s.size) _ 4 (by omega) _ 16 (by omega) _ HX.out (by omega) (.inr rfl)).mono ?_
  rintro e w1 ⟨rfl, hb⟩
  rw [HD.out]
  have hown1 := own_below hown hb
  have hbase1 := Nat.le_trans hbase hb.size
  have HB := Lib.hid hb
  clear hown hb
  simp only [optN, Option.isSome]
  have HOW := Lib.hid hown1
  clear hown1
  have HR := Lib.hid hV
  go_wp2_with fail
  refine (utf_isRune V _).mono ?_
  rintro e w' ⟨rfl, rfl⟩
  rw [hV]
  clear hV
  go_wp2_with fail
  refine (utf_form V _ (isRuneN_le HR.out) v base k bs HOW.out hbase1 hk).mono ?_
  rintro e w2 ⟨v', rfl, ho, hg⟩
  have HO := Lib.hid ho
  have HG := Lib.hid hg
  clear ho hg
  go_wp2_with fail
  go_ret2
  exact ⟨v', rfl, HO.out, grow_trans (grown_below HB.out _) HG.out⟩
set_option maxRecDepth 100000 in
theorem utf_escape_85_no (s : ByteArray) (q : UInt8) (w : World) (hs : s.size ≤ 281474976710656) (v : Value) (base k : Nat) (bs : List UInt8) (hown : w.ownsRow base 5 1 v k (cellsOf bs)) (hbase : base ≤ w.heap.size) (hk : k ≤ 281474976710) (h0 : 0 < s.size) (hv : s[0].toNat = 85) (hq : s[0] ≠ q) (hd : digsB (s.extract 1 s.size).data.toList 8 16 = none) :
    Calls Tryz.prog 78 #[v, .string s, .int .u8 (q.toNat : Int)] w (EscPost w v base k bs ([], 0)) := by
  have HV := Lib.hid hv
  have t97 : ((s[0].toNat : Int) == 97) = false := by rw [HV.out]; rfl
  have t98 : ((s[0].toNat : Int) == 98) = false := by rw [HV.out]; rfl
  have t116 : ((s[0].toNat : Int) == 116) = false := by rw [HV.out]; rfl
  have t110 : ((s[0].toNat : Int) == 110) = false := by rw [HV.out]; rfl
  have t118 : ((s[0].toNat : Int) == 118) = false := by rw [HV.out]; rfl
  have t102 : ((s[0].toNat : Int) == 102) = false := by rw [HV.out]; rfl
  have t114 : ((s[0].toNat : Int) == 114) = false := by rw [HV.out]; rfl
  have t92 : ((s[0].toNat : Int) == 92) = false := by rw [HV.out]; rfl
  have t120 : ((s[0].toNat : Int) == 120) = false := by rw [HV.out]; rfl
  have t117 : ((s[0].toNat : Int) == 117) = false := by rw [HV.out]; rfl
  have t85 : ((s[0].toNat : Int) == 85) = true := by rw [HV.out]; rfl
  have tq : ((s[0].toNat : Int) == (q.toNat : Int)) = false := by rw [beq_eq_false_iff_ne]; intro e; exact hq (UInt8.toNat_inj.1 (by omega))
  have hex : (s.extract 1 s.size).size ≤ 281474976710656 := by simp; omega
  clear hv hq
  have HD := Lib.hid hd
  have HX := Lib.hid hex
  clear hd hex
  obtain ⟨e1, e2⟩ := ne_facts h0
  go_enter Tryz.func78, Tryz.ntmps78
  go_wp2_with fail
  refine (utf_digits (s.extract 1 s.size) _ 8 (by omega) _ 16 (by omega) _ HX.out (by omega) (.inr rfl)).mono ?_
  rintro e w1 ⟨rfl, hb⟩
  rw [HD.out]
  have hown1 := own_below hown hb
  have hbase1 := Nat.le_trans hbase hb.size
  have HB := Lib.hid hb
  clear hown hb
  simp only [optN, Option.isSome]
  have HOW := Lib.hid hown1
  clear hown1
  go_wp2_with fail
  go_ret2
  exact esc_same HOW.out (grown_below HB.out _)
set_option maxRecDepth 100000 in
theorem utf_escape_85_nor (s : ByteArray) (q : UInt8) (w : World) (hs : s.size ≤ 281474976710656) (v : Value) (base k : Nat) (bs : List UInt8) (hown : w.ownsRow base 5 1 v k (cellsOf bs)) (hbase : base ≤ w.heap.size) (hk : k ≤ 281474976710) (h0 : 0 < s.size) (hv : s[0].toNat = 85) (hq : s[0] ≠ q) (V : Nat) (hV : isRuneN V = false) (hV2 : (V : Int) ≤ 134217727) (hd : digsB (s.extract 1 s.size).data.toList 8 16 = some V) :
    Calls Tryz.prog 78 #[v, .string s, .int .u8 (q.toNat : Int)] w (EscPost w v base k bs ([], 0)) := by
  have HV := Lib.hid hv
  have t97 : ((s[0].toNat : Int) == 97) = false := by rw [HV.out]; rfl
  have t98 : ((s[0].toNat : Int) == 98) = false := by rw [HV.out]; rfl
  have t116 : ((s[0].toNat : Int) == 116) = false := by rw [HV.out]; rfl
  have t110 : ((s[0].toNat : Int) == 110) = false := by rw [HV.out]; rfl
  have t118 : ((s[0].toNat : Int) == 118) = false := by rw [HV.out]; rfl
  have t102 : ((s[0].toNat : Int) == 102) = false := by rw [HV.out]; rfl
  have t114 : ((s[0].toNat : Int) == 114) = false := by rw [HV.out]; rfl
  have t92 : ((s[0].toNat : Int) == 92) = false := by rw [HV.out]; rfl
  have t120 : ((s[0].toNat : Int) == 120) = false := by rw [HV.out]; rfl
  have t117 : ((s[0].toNat : Int) == 117) = false := by rw [HV.out]; rfl
  have t85 : ((s[0].toNat : Int) == 85) = true := by rw [HV.out]; rfl
  have tq : ((s[0].toNat : Int) == (q.toNat : Int)) = false := by rw [beq_eq_false_iff_ne]; intro e; exact hq (UInt8.toNat_inj.1 (by omega))
  have hex : (s.extract 1 s.size).size ≤ 281474976710656 := by simp; omega
  clear hv hq
  have HD := Lib.hid hd
  have HX := Lib.hid hex
  clear hd hex
  obtain ⟨e1, e2⟩ := ne_facts h0
  go_enter Tryz.func78, Tryz.ntmps78
  go_wp2_with fail
  refine (utf_digits (s.extract 1 s.size) _ 8 (by omega) _ 16 (by omega) _ HX.out (by omega) (.inr rfl)).mono ?_
  rintro e w1 ⟨rfl, hb⟩
  rw [HD.out]
  have hown1 := own_below hown hb
  have hbase1 := Nat.le_trans hbase hb.size
  have HB := Lib.hid hb
  clear hown hb
  simp only [optN, Option.isSome]
  have HOW := Lib.hid hown1
  clear hown1
  go_wp2_with fail
  refine (utf_isRune V _).mono ?_
  rintro e w' ⟨rfl, rfl⟩
  rw [hV]
  go_wp2_with fail
  go_ret2
  exact esc_same HOW.out (grown_below HB.out _)
set_option maxRecDepth 100000 in
theorem utf_escape_85_yes (s : ByteArray) (q : UInt8) (w : World) (hs : s.size ≤ 281474976710656) (v : Value) (base k : Nat) (bs : List UInt8) (hown : w.ownsRow base 5 1 v k (cellsOf bs)) (hbase : base ≤ w.heap.size) (hk : k ≤ 281474976710) (h0 : 0 < s.size) (hv : s[0].toNat = 85) (hq : s[0] ≠ q) (V : Nat) (hV : isRuneN V = true) (hd : digsB (s.extract 1 s.size).data.toList 8 16 = some V) :
    Calls Tryz.prog 78 #[v, .string s, .int .u8 (q.toNat : Int)] w (EscPost w v base k bs (formB V, 9)) := by
  have HV := Lib.hid hv
  have t97 : ((s[0].toNat : Int) == 97) = false := by rw [HV.out]; rfl
  have t98 : ((s[0].toNat : Int) == 98) = false := by rw [HV.out]; rfl
  have t116 : ((s[0].toNat : Int) == 116) = false := by rw [HV.out]; rfl
  have t110 : ((s[0].toNat : Int) == 110) = false := by rw [HV.out]; rfl
  have t118 : ((s[0].toNat : Int) == 118) = false := by rw [HV.out]; rfl
  have t102 : ((s[0].toNat : Int) == 102) = false := by rw [HV.out]; rfl
  have t114 : ((s[0].toNat : Int) == 114) = false := by rw [HV.out]; rfl
  have t92 : ((s[0].toNat : Int) == 92) = false := by rw [HV.out]; rfl
  have t120 : ((s[0].toNat : Int) == 120) = false := by rw [HV.out]; rfl
  have t117 : ((s[0].toNat : Int) == 117) = false := by rw [HV.out]; rfl
  have t85 : ((s[0].toNat : Int) == 85) = true := by rw [HV.out]; rfl
  have tq : ((s[0].toNat : Int) == (q.toNat : Int)) = false := by rw [beq_eq_false_iff_ne]; intro e; exact hq (UInt8.toNat_inj.1 (by omega))
  have hex : (s.extract 1 s.size).size ≤ 281474976710656 := by simp; omega
  clear hv hq
  have HD := Lib.hid hd
  have HX := Lib.hid hex
  clear hd hex
  obtain ⟨e1, e2⟩ := ne_facts h0
  go_enter Tryz.func78, Tryz.ntmps78
  go_wp2_with fail
  refine (utf_digits (s.extract 1 s.size) _ 8 (by omega) _ 16 (by omega) _ HX.out (by omega) (.inr rfl)).mono ?_
  rintro e w1 ⟨rfl, hb⟩
  rw [HD.out]
  have hown1 := own_below hown hb
  have hbase1 := Nat.le_trans hbase hb.size
  have HB := Lib.hid hb
  clear hown hb
  simp only [optN, Option.isSome]
  have HOW := Lib.hid hown1
  clear hown1
  have HR := Lib.hid hV
  go_wp2_with fail
  refine (utf_isRune V _).mono ?_
  rintro e w' ⟨rfl, rfl⟩
  rw [hV]
  clear hV
  go_wp2_with fail
  refine (utf_form V _ (isRuneN_le HR.out) v base k bs HOW.out hbase1 hk).mono ?_
  rintro e w2 ⟨v', rfl, ho, hg⟩
  have HO := Lib.hid ho
  have HG := Lib.hid hg
  clear ho hg
  go_wp2_with fail
  go_ret2
  exact ⟨v', rfl, HO.out, grow_trans (grown_below HB.out _) HG.out⟩
set_option maxRecDepth 100000 in
theorem utf_escape_oct_no (s : ByteArray) (q : UInt8) (w : World) (hs : s.size ≤ 281474976710656) (v : Value) (base k : Nat) (bs : List UInt8) (hown : w.ownsRow base 5 1 v k (cellsOf bs)) (hbase : base ≤ w.heap.size) (hk : k ≤ 281474976710) (h0 : 0 < s.size) (hn : ∀ t ∈ [97, 98, 116, 110, 118, 102, 114, 92, 120, 117, 85], s[0].toNat ≠ t) (hq : s[0] ≠ q) (hd : digsB s.data.toList 3 8 = none) :
    Calls Tryz.prog 78 #[v, .string s, .int .u8 (q.toNat : Int)] w (EscPost w v base k bs ([], 0)) := by
  have t97 : ((s[0].toNat : Int) == 97) = false := by rw [beq_eq_false_iff_ne]; have := hn 97 (by simp); omega
  have t98 : ((s[0].toNat : Int) == 98) = false := by rw [beq_eq_false_iff_ne]; have := hn 98 (by simp); omega
  have t116 : ((s[0].toNat : Int) == 116) = false := by rw [beq_eq_false_iff_ne]; have := hn 116 (by simp); omega
  have t110 : ((s[0].toNat : Int) == 110) = false := by rw [beq_eq_false_iff_ne]; have := hn 110 (by simp); omega
  have t118 : ((s[0].toNat : Int) == 118) = false := by rw [beq_eq_false_iff_ne]; have := hn 118 (by simp); omega
  have t102 : ((s[0].toNat : Int) == 102) = false := by rw [beq_eq_false_iff_ne]; have := hn 102 (by simp); omega
  have t114 : ((s[0].toNat : Int) == 114) = false := by rw [beq_eq_false_iff_ne]; have := hn 114 (by simp); omega
  have t92 : ((s[0].toNat : Int) == 92) = false := by rw [beq_eq_false_iff_ne]; have := hn 92 (by simp); omega
  have t120 : ((s[0].toNat : Int) == 120) = false := by rw [beq_eq_false_iff_ne]; have := hn 120 (by simp); omega
  have t117 : ((s[0].toNat : Int) == 117) = false := by rw [beq_eq_false_iff_ne]; have := hn 117 (by simp); omega
  have t85 : ((s[0].toNat : Int) == 85) = false := by rw [beq_eq_false_iff_ne]; have := hn 85 (by simp); omega
  have tq : ((s[0].toNat : Int) == (q.toNat : Int)) = false := by rw [beq_eq_false_iff_ne]; intro e; exact hq (UInt8.toNat_inj.1 (by omega))
  clear hn hq
  have HD := Lib.hid hd
  clear hd
  obtain ⟨e1, e2⟩ := ne_facts h0
  go_enter Tryz.func78, Tryz.ntmps78
  go_wp2_with fail
  refine (utf_digits s _ 3 (by omega) _ 8 (by omega) _ hs (by omega) (.inl rfl)).mono ?_
  rintro e w1 ⟨rfl, hb⟩
  rw [HD.out]
  have hown1 := own_below hown hb
  have hbase1 := Nat.le_trans hbase hb.size
  have HB := Lib.hid hb
  clear hown hb
  simp only [optN, Option.isSome]
  have HOW := Lib.hid hown1
  clear hown1
  go_wp2_with fail
  go_ret2
  exact esc_same HOW.out (grown_below HB.out _)
set_option maxRecDepth 100000 in
theorem utf_escape_oct_big (s : ByteArray) (q : UInt8) (w : World) (hs : s.size ≤ 281474976710656) (v : Value) (base k : Nat) (bs : List UInt8) (hown : w.ownsRow base 5 1 v k (cellsOf bs)) (hbase : base ≤ w.heap.size) (hk : k ≤ 281474976710) (h0 : 0 < s.size) (hn : ∀ t ∈ [97, 98, 116, 110, 118, 102, 114, 92, 120, 117, 85], s[0].toNat ≠ t) (hq : s[0] ≠ q) (V : Nat) (hV : 255 < (V : Int)) (hd : digsB s.data.toList 3 8 = some V) :
    Calls Tryz.prog 78 #[v, .string s, .int .u8 (q.toNat : Int)] w (EscPost w v base k bs ([], 0)) := by
  have t97 : ((s[0].toNat : Int) == 97) = false := by rw [beq_eq_false_iff_ne]; have := hn 97 (by simp); omega
  have t98 : ((s[0].toNat : Int) == 98) = false := by rw [beq_eq_false_iff_ne]; have := hn 98 (by simp); omega
  have t116 : ((s[0].toNat : Int) == 116) = false := by rw [beq_eq_false_iff_ne]; have := hn 116 (by simp); omega
  have t110 : ((s[0].toNat : Int) == 110) = false := by rw [beq_eq_false_iff_ne]; have := hn 110 (by simp); omega
  have t118 : ((s[0].toNat : Int) == 118) = false := by rw [beq_eq_false_iff_ne]; have := hn 118 (by simp); omega
  have t102 : ((s[0].toNat : Int) == 102) = false := by rw [beq_eq_false_iff_ne]; have := hn 102 (by simp); omega
  have t114 : ((s[0].toNat : Int) == 114) = false := by rw [beq_eq_false_iff_ne]; have := hn 114 (by simp); omega
  have t92 : ((s[0].toNat : Int) == 92) = false := by rw [beq_eq_false_iff_ne]; have := hn 92 (by simp); omega
  have t120 : ((s[0].toNat : Int) == 120) = false := by rw [beq_eq_false_iff_ne]; have := hn 120 (by simp); omega
  have t117 : ((s[0].toNat : Int) == 117) = false := by rw [beq_eq_false_iff_ne]; have := hn 117 (by simp); omega
  have t85 : ((s[0].toNat : Int) == 85) = false := by rw [beq_eq_false_iff_ne]; have := hn 85 (by simp); omega
  have tq : ((s[0].toNat : Int) == (q.toNat : Int)) = false := by rw [beq_eq_false_iff_ne]; intro e; exact hq (UInt8.toNat_inj.1 (by omega))
  clear hn hq
  have HD := Lib.hid hd
  clear hd
  obtain ⟨e1, e2⟩ := ne_facts h0
  go_enter Tryz.func78, Tryz.ntmps78
  go_wp2_with fail
  refine (utf_digits s _ 3 (by omega) _ 8 (by omega) _ hs (by omega) (.inl rfl)).mono ?_
  rintro e w1 ⟨rfl, hb⟩
  rw [HD.out]
  have hown1 := own_below hown hb
  have hbase1 := Nat.le_trans hbase hb.size
  have HB := Lib.hid hb
  clear hown hb
  simp only [optN, Option.isSome]
  have HOW := Lib.hid hown1
  clear hown1
  go_wp2_with fail
  go_ret2
  exact esc_same HOW.out (grown_below HB.out _)
set_option maxRecDepth 100000 in
theorem utf_escape_oct_yes (s : ByteArray) (q : UInt8) (w : World) (hs : s.size ≤ 281474976710656) (v : Value) (base k : Nat) (bs : List UInt8) (hown : w.ownsRow base 5 1 v k (cellsOf bs)) (hbase : base ≤ w.heap.size) (hk : k ≤ 281474976710) (h0 : 0 < s.size) (hn : ∀ t ∈ [97, 98, 116, 110, 118, 102, 114, 92, 120, 117, 85], s[0].toNat ≠ t) (hq : s[0] ≠ q) (V : Nat) (hV : (V : Int) ≤ 255) (hd : digsB s.data.toList 3 8 = some V) :
    Calls Tryz.prog 78 #[v, .string s, .int .u8 (q.toNat : Int)] w (EscPost w v base k bs ([UInt8.ofNat V], 3)) := by
  have t97 : ((s[0].toNat : Int) == 97) = false := by rw [beq_eq_false_iff_ne]; have := hn 97 (by simp); omega
  have t98 : ((s[0].toNat : Int) == 98) = false := by rw [beq_eq_false_iff_ne]; have := hn 98 (by simp); omega
  have t116 : ((s[0].toNat : Int) == 116) = false := by rw [beq_eq_false_iff_ne]; have := hn 116 (by simp); omega
  have t110 : ((s[0].toNat : Int) == 110) = false := by rw [beq_eq_false_iff_ne]; have := hn 110 (by simp); omega
  have t118 : ((s[0].toNat : Int) == 118) = false := by rw [beq_eq_false_iff_ne]; have := hn 118 (by simp); omega
  have t102 : ((s[0].toNat : Int) == 102) = false := by rw [beq_eq_false_iff_ne]; have := hn 102 (by simp); omega
  have t114 : ((s[0].toNat : Int) == 114) = false := by rw [beq_eq_false_iff_ne]; have := hn 114 (by simp); omega
  have t92 : ((s[0].toNat : Int) == 92) = false := by rw [beq_eq_false_iff_ne]; have := hn 92 (by simp); omega
  have t120 : ((s[0].toNat : Int) == 120) = false := by rw [beq_eq_false_iff_ne]; have := hn 120 (by simp); omega
  have t117 : ((s[0].toNat : Int) == 117) = false := by rw [beq_eq_false_iff_ne]; have := hn 117 (by simp); omega
  have t85 : ((s[0].toNat : Int) == 85) = false := by rw [beq_eq_false_iff_ne]; have := hn 85 (by simp); omega
  have tq : ((s[0].toNat : Int) == (q.toNat : Int)) = false := by rw [beq_eq_false_iff_ne]; intro e; exact hq (UInt8.toNat_inj.1 (by omega))
  clear hn hq
  have HD := Lib.hid hd
  clear hd
  obtain ⟨e1, e2⟩ := ne_facts h0
  go_enter Tryz.func78, Tryz.ntmps78
  go_wp2_with fail
  refine (utf_digits s _ 3 (by omega) _ 8 (by omega) _ hs (by omega) (.inl rfl)).mono ?_
  rintro e w1 ⟨rfl, hb⟩
  rw [HD.out]
  have hown1 := own_below hown hb
  have hbase1 := Nat.le_trans hbase hb.size
  have HB := Lib.hid hb
  clear hown hb
  simp only [optN, Option.isSome]
  go_wp2_with (at_builtin; refine wpList_pushN rfl (.tmp 32) (.tmp 35) 40 rfl base 5 (.int .u8 0) 1 1 info_u8 Tryz.underlying40 rfl (by omega) v k _ rfl hown1 1 _ rfl rfl (ints1 [_]) (by unfold maxLen; omega) (by omega) hbase1 ?_)
  intro v' w2 ho hg
  have HO := Lib.hid ho
  have HG := Lib.hid hg
  clear ho hg hown1
  go_wp2_with fail
  go_ret2
  exact esc_post (us := [(V : Int)]) 1 rfl rfl HO.out (grow_trans (grown_below HB.out _) HG.out) (by simp; omega)

theorem digsGoB_le {base : Nat} (hb : base ≤ 16) : ∀ {l : List UInt8} {v r : Nat}, digsGoB base v l = some r → v ≤ 134217727 → r ≤ 134217727
  | [], v, r, h, hv => by simp [digsGoB] at h; omega
  | c :: l, v, r, h, hv => by
    simp only [digsGoB] at h
    cases hd : digVal c with
    | none => rw [hd] at h; simp at h
    | some d =>
      rw [hd] at h
      simp only at h
      split at h
      · rename_i hx
        have : v * base ≤ 8388607 * 16 := Nat.mul_le_mul hx.2 hb
        exact digsGoB_le hb h (by omega)
      · simp at h
theorem digsB_le {l : List UInt8} {n base V : Nat} (h : digsB l n base = some V) (hb : base ≤ 16) : (V : Int) ≤ 134217727 := by
  unfold digsB at h
  split at h
  · simp at h
  · have := digsGoB_le hb h (by omega)
    omega
theorem utf_escape (s : ByteArray) (q : UInt8) (w : World) (hs : s.size ≤ 281474976710656) (v : Value) (base k : Nat) (bs : List UInt8) (hown : w.ownsRow base 5 1 v k (cellsOf bs)) (hbase : base ≤ w.heap.size) (hk : k ≤ 281474976710) :
    Calls Tryz.prog 78 #[v, .string s, .int .u8 (q.toNat : Int)] w (EscPost w v base k bs (escB q s.data.toList)) := by
  cases hl : s.data.toList with
  | nil =>
    have : s = ⟨#[]⟩ := by rw [← mk_data s, hl]
    subst this
    exact utf_escape_nil q w v base k bs hown hbase hk
  | cons c r =>
    have h0 : 0 < s.size := by rw [← len_data, hl]; simp
    have hc := head_eq hl h0
    have ht := tail_eq hl
    by_cases hp : isPlain c = true
    · rw [esc_plain hp]
      have e : c = 97 ∨ c = 98 ∨ c = 116 ∨ c = 110 ∨ c = 118 ∨ c = 102 ∨ c = 114 := by simpa [isPlain, or_assoc] using hp
      rw [← hc] at e ⊢
      rcases e with e | e | e | e | e | e | e
      · rw [show plainB s[0] = 7 by rw [e]; rfl]; exact utf_escape_97 s q w hs v base k bs hown hbase hk h0 (by rw [e]; rfl)
      · rw [show plainB s[0] = 8 by rw [e]; rfl]; exact utf_escape_98 s q w hs v base k bs hown hbase hk h0 (by rw [e]; rfl)
      · rw [show plainB s[0] = 9 by rw [e]; rfl]; exact utf_escape_116 s q w hs v base k bs hown hbase hk h0 (by rw [e]; rfl)
      · rw [show plainB s[0] = 10 by rw [e]; rfl]; exact utf_escape_110 s q w hs v base k bs hown hbase hk h0 (by rw [e]; rfl)
      · rw [show plainB s[0] = 11 by rw [e]; rfl]; exact utf_escape_118 s q w hs v base k bs hown hbase hk h0 (by rw [e]; rfl)
      · rw [show plainB s[0] = 12 by rw [e]; rfl]; exact utf_escape_102 s q w hs v base k bs hown hbase hk h0 (by rw [e]; rfl)
      · rw [show plainB s[0] = 13 by rw [e]; rfl]; exact utf_escape_114 s q w hs v base k bs hown hbase hk h0 (by rw [e]; rfl)
    · have hp' : isPlain c = false := by simpa using hp
      have np : ∀ t ∈ [97, 98, 116, 110, 118, 102, 114], s[0].toNat ≠ t := by
        intro t htm e
        apply hp
        rw [← hc]
        simp only [List.mem_cons, List.not_mem_nil, or_false] at htm
        rcases htm with rfl | rfl | rfl | rfl | rfl | rfl | rfl
        all_goals (rw [u8_lit (by omega) e]; rfl)
      by_cases h92 : c = 92
      · rw [esc_self hp' (.inl h92), ← hc]
        exact utf_escape_bs s q w hs v base k bs hown hbase hk h0 (by rw [hc, h92]; rfl)
      · have n92 : s[0].toNat ≠ 92 := fun e => h92 (by rw [← hc]; exact u8_lit (n := 92) (by omega) e)
        by_cases hq : c = q
        · rw [esc_self hp' (.inr hq), ← hc]
          exact utf_escape_q s q w hs v base k bs hown hbase hk h0 (by
            intro t htm
            simp only [List.mem_cons, List.not_mem_nil, or_false] at htm np
            rcases htm with h | h | h | h | h | h | h | h
            all_goals first | (subst h; exact n92) | exact np t (by simp [h])) (by rw [hc, hq])
        · have hq' : s[0] ≠ q := by rw [hc]; exact hq
          by_cases h120 : c = 120
          · rw [esc_x h120 hq, ← ht]
            have hv : s[0].toNat = 120 := by rw [hc, h120]; rfl
            cases hd : digsB (s.extract 1 s.size).data.toList 2 16 with
            | none => exact utf_escape_x_no s q w hs v base k bs hown hbase hk h0 hv hq' hd
            | some V =>
              have hV : V < 256 := by
                rw [digsB_16_2] at hd
                exact digs_lt (by omega) hd
              exact utf_escape_x_yes s q w hs v base k bs hown hbase hk h0 hv hq' V hV hd
          · have n120 : s[0].toNat ≠ 120 := fun e => h120 (by rw [← hc]; exact u8_lit (n := 120) (by omega) e)
            by_cases h117 : c = 117
            · rw [esc_u h117 hq, ← ht]
              have hv : s[0].toNat = 117 := by rw [hc, h117]; rfl
              cases hd : digsB (s.extract 1 s.size).data.toList 4 16 with
              | none => exact utf_escape_117_no s q w hs v base k bs hown hbase hk h0 hv hq' hd
              | some V =>
                cases hr : isRuneN V
                · simp only [hr]; exact utf_escape_117_nor s q w hs v base k bs hown hbase hk h0 hv hq' V hr (digsB_le hd (by omega)) hd
                · simp only [hr]; exact utf_escape_117_yes s q w hs v base k bs hown hbase hk h0 hv hq' V hr hd
            · have n117 : s[0].toNat ≠ 117 := fun e => h117 (by rw [← hc]; exact u8_lit (n := 117) (by omega) e)
              by_cases h85 : c = 85
              · rw [esc_U h85 hq, ← ht]
                have hv : s[0].toNat = 85 := by rw [hc, h85]; rfl
                cases hd : digsB (s.extract 1 s.size).data.toList 8 16 with
                | none => exact utf_escape_85_no s q w hs v base k bs hown hbase hk h0 hv hq' hd
                | some V =>
                  cases hr : isRuneN V
                  · simp only [hr]; exact utf_escape_85_nor s q w hs v base k bs hown hbase hk h0 hv hq' V hr (digsB_le hd (by omega)) hd
                  · simp only [hr]; exact utf_escape_85_yes s q w hs v base k bs hown hbase hk h0 hv hq' V hr hd
              · have n85 : s[0].toNat ≠ 85 := fun e => h85 (by rw [← hc]; exact u8_lit (n := 85) (by omega) e)
                rw [esc_oct hp' h92 hq h120 h117 h85, ← hl]
                have nn : ∀ t ∈ [97, 98, 116, 110, 118, 102, 114, 92, 120, 117, 85], s[0].toNat ≠ t := by
                  intro t htm
                  simp only [List.mem_cons, List.not_mem_nil, or_false] at htm np
                  rcases htm with h | h | h | h | h | h | h | h | h | h | h
                  all_goals first | (subst h; assumption) | exact np t (by simp [h])
                cases hd : digsB s.data.toList 3 8 with
                | none => exact utf_escape_oct_no s q w hs v base k bs hown hbase hk h0 nn hq' hd
                | some V =>
                  by_cases hV : V ≤ 255
                  · simp only [if_pos hV]; exact utf_escape_oct_yes s q w hs v base k bs hown hbase hk h0 nn hq' V (by omega) hd
                  · simp only [if_neg hV]; exact utf_escape_oct_big s q w hs v base k bs hown hbase hk h0 nn hq' V (by omega) hd
end Go.Proofs.YtpkeonafcldkhaaGreatDoor
