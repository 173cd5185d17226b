import Derived.Test.YtpkeonafcldkhaaGreatDoorM09
import Derived.Deep.QuietTactic
import Derived.BigQuiet
/- utf: escape. -/
set_option linter.unusedVariables false
set_option linter.unusedSimpArgs false
namespace Go.Proofs.YtpkeonafcldkhaaGreatDoor
open Go.RowKit

/-- What escape leaves. -/
def EscPost (w : World) (v : Value) (base k : Nat) (bs : List UInt8) (r : List UInt8 × Nat) (e : Ending) (w' : World) : Prop :=
  ∃ v', e = .returned (.tuple #[v', .int .i64 (r.2 : Int)]) ∧ w'.ownsRow base 5 1 v' (k + r.1.length) (cellsOf (bs ++ r.1)) ∧ w.grownBy w' v.ownBlock
theorem esc_same {w w' : World} {v : Value} {base k : Nat} {bs : List UInt8} (hown : w'.ownsRow base 5 1 v k (cellsOf bs)) (hg : w.grownBy w' v.ownBlock) : EscPost w v base k bs ([], 0) (.returned (.tuple #[v, .int .i64 0])) w' :=
  ⟨v, rfl, by simpa using hown, hg⟩
theorem esc_post {w w' : World} {v v' : Value} {base k : Nat} {bs new : List UInt8} {us : List Int} {n : Nat} {x : Int} (m : Nat) (hm : m = new.length) (hx : x = n) (hown : w'.ownsRow base 5 1 v' (k + m) (cellsOf bs ++ us.map (Value.int .u8))) (hg : w.grownBy w' v.ownBlock)
    (hu : us = new.map fun c => (c.toNat : Int)) : EscPost w v base k bs (new, n) (.returned (.tuple #[v', .int .i64 x])) w' := by
  subst hm hu hx
  refine ⟨v', rfl, ?_, hg⟩
  rw [cellsOf_append]
  simpa [cellsOf, List.map_map, Function.comp_def] using hown
theorem grown_below {w w' : World} (h : Below w.heap.size w w') (row : Option Nat) : w.grownBy w' row := ⟨h.os, h.tape, h.output, h.size, fun i hi _ => h.block i hi⟩
theorem own_below {w w' : World} {base : Nat} {v : Value} {k : Nat} {xs : List Value} (h : w.ownsRow base 5 1 v k xs) (hb : Below w.heap.size w w') : w'.ownsRow base 5 1 v k xs :=
  h.kept (grown_below hb none) (by cases v.ownBlock <;> simp)
theorem ne_facts {s : ByteArray} (h : 0 < s.size) : (s.toList == []) = false ∧ s.toList.isEmpty = false := by
  rw [ByteArray.toList_eq]
  have : 0 < s.data.toList.length := by rw [len_data]; exact h
  cases hl : s.data.toList with
  | nil => rw [hl] at this; simp at this
  | cons c r => exact ⟨rfl, rfl⟩
theorem head_eq {s : ByteArray} {c : UInt8} {r : List UInt8} (hl : s.data.toList = c :: r) (h0 : 0 < s.size) : s[0] = c := by
  rw [← gl s 0 (by rw [hl]; simp)]; simp [hl]
theorem tail_eq {s : ByteArray} {c : UInt8} {r : List UInt8} (hl : s.data.toList = c :: r) : (s.extract 1 s.size).data.toList = r := by
  rw [extract_from, hl]; rfl
set_option maxRecDepth 100000 in
theorem utf_escape_nil (q : UInt8) (w : World) (v : Value) (base k : Nat) (bs : List UInt8) (hown : w.ownsRow base 5 1 v k (cellsOf bs)) (hbase : base ≤ w.heap.size) (hk : k ≤ 281474976710) :
    Calls Tryz.prog 78 #[v, .string ⟨#[]⟩, .int .u8 (q.toNat : Int)] w (EscPost w v base k bs ([], 0)) := by
  have HO := Lib.hid hown
  clear hown
  go_enter Tryz.func78, Tryz.ntmps78
  go_wp2_with fail
  go_ret2
  exact esc_same HO.out (World.grownBy.refl _ _)
set_option maxRecDepth 100000 in
theorem utf_escape_97 (s : ByteArray) (q : UInt8) (w : World) (hs : s.size ≤ 281474976710656) (v : Value) (base k : Nat) (bs : List UInt8) (hown : w.ownsRow base 5 1 v k (cellsOf bs)) (hbase : base ≤ w.heap.size) (hk : k ≤ 281474976710) (h0 : 0 < s.size) (hv : s[0].toNat = 97) :
    Calls Tryz.prog 78 #[v, .string s, .int .u8 (q.toNat : Int)] w (EscPost w v base k bs ([7], 1)) := by
  have HV := Lib.hid hv
  have t97 : ((s[0].toNat : Int) == 97) = true := by rw [HV.out]; rfl
  have t98 : ((s[0].toNat : Int) == 98) = false := by rw [HV.out]; rfl
  have t116 : ((s[0].toNat : Int) == 116) = false := by rw [HV.out]; rfl
  have t110 : ((s[0].toNat : Int) == 110) = false := by rw [HV.out]; rfl
  have t118 : ((s[0].toNat : Int) == 118) = false := by rw [HV.out]; rfl
  have t102 : ((s[0].toNat : Int) == 102) = false := by rw [HV.out]; rfl
  have t114 : ((s[0].toNat : Int) == 114) = false := by rw [HV.out]; rfl
  have t92 : ((s[0].toNat : Int) == 92) = false := by rw [HV.out]; rfl
  have t120 : ((s[0].toNat : Int) == 120) = false := by rw [HV.out]; rfl
  have t117 : ((s[0].toNat : Int) == 117) = false := by rw [HV.out]; rfl
  have t85 : ((s[0].toNat : Int) == 85) = false := by rw [HV.out]; rfl
  have hp : plainB s[0] = 7 := by rw [u8_lit (n := 97) (by omega) hv]; rfl
  clear hv
  obtain ⟨e1, e2⟩ := ne_facts h0
  go_enter Tryz.func78, Tryz.ntmps78
  go_wp2_with (first | (go_at_call 106; refine (utf_plain _ _).mono ?_; rintro e w' ⟨rfl, rfl⟩; rw [hp]) | (at_builtin; refine wpList_pushN rfl (.tmp 45) (.tmp 48) 40 rfl base 5 (.int .u8 0) 1 1 info_u8 Tryz.underlying40 rfl (by omega) v k _ rfl hown 1 _ rfl rfl (ints1 [_]) (by unfold maxLen; omega) (by omega) hbase ?_))
  intro v' w1 ho hg
  have HO := Lib.hid ho
  have HG := Lib.hid hg
  clear ho hg hown
  go_wp2_with fail
  go_ret2
  exact esc_post (us := [7]) 1 rfl rfl HO.out HG.out rfl
set_option maxRecDepth 100000 in
theorem utf_escape_98 (s : ByteArray) (q : UInt8) (w : World) (hs : s.size ≤ 281474976710656) (v : Value) (base k : Nat) (bs : List UInt8) (hown : w.ownsRow base 5 1 v k (cellsOf bs)) (hbase : base ≤ w.heap.size) (hk : k ≤ 281474976710) (h0 : 0 < s.size) (hv : s[0].toNat = 98) :
    Calls Tryz.prog 78 #[v, .string s, .int .u8 (q.toNat : Int)] w (EscPost w v base k bs ([8], 1)) := by
  have HV := Lib.hid hv
  have t97 : ((s[0].toNat : Int) == 97) = false := by rw [HV.out]; rfl
  have t98 : ((s[0].toNat : Int) == 98) = true := by rw [HV.out]; rfl
  have t116 : ((s[0].toNat : Int) == 116) = false := by rw [HV.out]; rfl
  have t110 : ((s[0].toNat : Int) == 110) = false := by rw [HV.out]; rfl
  have t118 : ((s[0].toNat : Int) == 118) = false := by rw [HV.out]; rfl
  have t102 : ((s[0].toNat : Int) == 102) = false := by rw [HV.out]; rfl
  have t114 : ((s[0].toNat : Int) == 114) = false := by rw [HV.out]; rfl
  have t92 : ((s[0].toNat : Int) == 92) = false := by rw [HV.out]; rfl
  have t120 : ((s[0].toNat : Int) == 120) = false := by rw [HV.out]; rfl
  have t117 : ((s[0].toNat : Int) == 117) = false := by rw [HV.out]; rfl
  have t85 : ((s[0].toNat : Int) == 85) = false := by rw [HV.out]; rfl
  have hp : plainB s[0] = 8 := by rw [u8_lit (n := 98) (by omega) hv]; rfl
  clear hv
  obtain ⟨e1, e2⟩ := ne_facts h0
  go_enter Tryz.func78, Tryz.ntmps78
  go_wp2_with (first | (go_at_call 106; refine (utf_plain _ _).mono ?_; rintro e w' ⟨rfl, rfl⟩; rw [hp]) | (at_builtin; refine wpList_pushN rfl (.tmp 45) (.tmp 48) 40 rfl base 5 (.int .u8 0) 1 1 info_u8 Tryz.underlying40 rfl (by omega) v k _ rfl hown 1 _ rfl rfl (ints1 [_]) (by unfold maxLen; omega) (by omega) hbase ?_))
  intro v' w1 ho hg
  have HO := Lib.hid ho
  have HG := Lib.hid hg
  clear ho hg hown
  go_wp2_with fail
  go_ret2
  exact esc_post (us := [8]) 1 rfl rfl HO.out HG.out rfl
set_option maxRecDepth 100000 in
theorem utf_escape_116 (s : ByteArray) (q : UInt8) (w : World) (hs : s.size ≤ 281474976710656) (v : Value) (base k : Nat) (bs : List UInt8) (hown : w.ownsRow base 5 1 v k (cellsOf bs)) (hbase : base ≤ w.heap.size) (hk : k ≤ 281474976710) (h0 : 0 < s.size) (hv : s[0].toNat = 116) :
    Calls Tryz.prog 78 #[v, .string s, .int .u8 (q.toNat : Int)] w (EscPost w v base k bs ([9], 1)) := by
  have HV := Lib.hid hv
  have t97 : ((s[0].toNat : Int) == 97) = false := by rw [HV.out]; rfl
  have t98 : ((s[0].toNat : Int) == 98) = false := by rw [HV.out]; rfl
  have t116 : ((s[0].toNat : Int) == 116) = true := by rw [HV.out]; rfl
  have t110 : ((s[0].toNat : Int) == 110) = false := by rw [HV.out]; rfl
  have t118 : ((s[0].toNat : Int) == 118) = false := by rw [HV.out]; rfl
  have t102 : ((s[0].toNat : Int) == 102) = false := by rw [HV.out]; rfl
  have t114 : ((s[0].toNat : Int) == 114) = false := by rw [HV.out]; rfl
  have t92 : ((s[0].toNat : Int) == 92) = false := by rw [HV.out]; rfl
  have t120 : ((s[0].toNat : Int) == 120) = false := by rw [HV.out]; rfl
  have t117 : ((s[0].toNat : Int) == 117) = false := by rw [HV.out]; rfl
  have t85 : ((s[0].toNat : Int) == 85) = false := by rw [HV.out]; rfl
  have hp : plainB s[0] = 9 := by rw [u8_lit (n := 116) (by omega) hv]; rfl
  clear hv
  obtain ⟨e1, e2⟩ := ne_facts h0
  go_enter Tryz.func78, Tryz.ntmps78
  go_wp2_with (first | (go_at_call 106; refine (utf_plain _ _).mono ?_; rintro e w' ⟨rfl, rfl⟩; rw [hp]) | (at_builtin; refine wpList_pushN rfl (.tmp 45) (.tmp 48) 40 rfl base 5 (.int .u8 0) 1 1 info_u8 Tryz.underlying40 rfl (by omega) v k _ rfl hown 1 _ rfl rfl (ints1 [_]) (by unfold maxLen; omega) (by omega) hbase ?_))
  intro v' w1 ho hg
  have HO := Lib.hid ho
  have HG := Lib.hid hg
  clear ho hg hown
  go_wp2_with fail
  go_ret2
  exact esc_post (us := [9]) 1 rfl rfl HO.out HG.out rfl
set_option maxRecDepth 100000 in
theorem utf_escape_110 (s : ByteArray) (q : UInt8) (w : World) (hs : s.size ≤ 281474976710656) (v : Value) (base k : Nat) (bs : List UInt8) (hown : w.ownsRow base 5 1 v k (cellsOf bs)) (hbase : base ≤ w.heap.size) (hk : k ≤ 281474976710) (h0 : 0 < s.size) (hv : s[0].toNat = 110) :
    Calls Tryz.prog 78 #[v, .string s, .int .u8 (q.toNat : Int)] w (EscPost w v base k bs ([10], 1)) := by
  have HV := Lib.hid hv
  have t97 : ((s[0].toNat : Int) == 97) = false := by rw [HV.out]; rfl
  have t98 : ((s[0].toNat : Int) == 98) = false := by rw [HV.out]; rfl
  have t116 : ((s[0].toNat : Int) == 116) = false := by rw [HV.out]; rfl
  have t110 : ((s[0].toNat : Int) == 110) = true := by rw [HV.out]; rfl
  have t118 : ((s[0].toNat : Int) == 118) = false := by rw [HV.out]; rfl
  have t102 : ((s[0].toNat : Int) == 102) = false := by rw [HV.out]; rfl
  have t114 : ((s[0].toNat : Int) == 114) = false := by rw [HV.out]; rfl
  have t92 : ((s[0].toNat : Int) == 92) = false := by rw [HV.out]; rfl
  have t120 : ((s[0].toNat : Int) == 120) = false := by rw [HV.out]; rfl
  have t117 : ((s[0].toNat : Int) == 117) = false := by rw [HV.out]; rfl
  have t85 : ((s[0].toNat : Int) == 85) = false := by rw [HV.out]; rfl
  have hp : plainB s[0] = 10 := by rw [u8_lit (n := 110) (by omega) hv]; rfl
  clear hv
  obtain ⟨e1, e2⟩ := ne_facts h0
  go_enter Tryz.func78, Tryz.ntmps78
  go_wp2_with (first | (go_at_call 106; refine (utf_plain _ _).mono ?_; rintro e w' ⟨rfl, rfl⟩; rw [hp]) | (at_builtin; refine wpList_pushN rfl (.tmp 45) (.tmp 48) 40 rfl base 5 (.int .u8 0) 1 1 info_u8 Tryz.underlying40 rfl (by omega) v k _ rfl hown 1 _ rfl rfl (ints1 [_]) (by unfold maxLen; omega) (by omega) hbase ?_))
  intro v' w1 ho hg
  have HO := Lib.hid ho
  have HG := Lib.hid hg
  clear ho hg hown
  go_wp2_with fail
  go_ret2
  exact esc_post (us := [10]) 1 rfl rfl HO.out HG.out rfl
set_option maxRecDepth 100000 in
theorem utf_escape_118 (s : ByteArray) (q : UInt8) (w : World) (hs : s.size ≤ 281474976710656) (v : Value) (base k : Nat) (bs : List UInt8) (hown : w.ownsRow base 5 1 v k (cellsOf bs)) (hbase : base ≤ w.heap.size) (hk : k ≤ 281474976710) (h0 : 0 < s.size) (hv : s[0].toNat = 118) :
    Calls Tryz.prog 78 #[v, .string s, .int .u8 (q.toNat : Int)] w (EscPost w v base k bs ([11], 1)) := by
  have HV := Lib.hid hv
  have t97 : ((s[0].toNat : Int) == 97) = false := by rw [HV.out]; rfl
  have t98 : ((s[0].toNat : Int) == 98) = false := by rw [HV.out]; rfl
  have t116 : ((s[0].toNat : Int) == 116) = false := by rw [HV.out]; rfl
  have t110 : ((s[0].toNat : Int) == 110) = false := by rw [HV.out]; rfl
  have t118 : ((s[0].toNat : Int) == 118) = true := by rw [HV.out]; rfl
  have t102 : ((s[0].toNat : Int) == 102) = false := by rw [HV.out]; rfl
  have t114 : ((s[0].toNat : Int) == 114) = false := by rw [HV.out]; rfl
  have t92 : ((s[0].toNat : Int) == 92) = false := by rw [HV.out]; rfl
  have t120 : ((s[0].toNat : Int) == 120) = false := by rw [HV.out]; rfl
  have t117 : ((s[0].toNat : Int) == 117) = false := by rw [HV.out]; rfl
  have t85 : ((s[0].toNat : Int) == 85) = false := by rw [HV.out]; rfl
  have hp : plainB s[0] = 11 := by rw [u8_lit (n := 118) (by omega) hv]; rfl
  clear hv
  obtain ⟨e1, e2⟩ := ne_facts h0
  go_enter Tryz.func78, Tryz.ntmps78
  go_wp2_with (first | (go_at_call 106; refine (utf_plain _ _).mono ?_; rintro e w' ⟨rfl, rfl⟩; rw [hp]) | (at_builtin; refine wpList_pushN rfl (.tmp 45) (.tmp 48) 40 rfl base 5 (.int .u8 0) 1 1 info_u8 Tryz.underlying40 rfl (by omega) v k _ rfl hown 1 _ rfl rfl (ints1 [_]) (by unfold maxLen; omega) (by omega) hbase ?_))
  intro v' w1 ho hg
  have HO := Lib.hid ho
  have HG := Lib.hid hg
  clear ho hg hown
  go_wp2_with fail
  go_ret2
  exact esc_post (us := [11]) 1 rfl rfl HO.out HG.out rfl
set_option maxRecDepth 100000 in
theorem utf_escape_102 (s : ByteArray) (q : UInt8) (w : World) (hs : s.size ≤ 281474976710656) (v : Value) (base k : Nat) (bs : List UInt8) (hown : w.ownsRow base 5 1 v k (cellsOf bs)) (hbase : base ≤ w.heap.size) (hk : k ≤ 281474976710) (h0 : 0 < s.size) (hv : s[0].toNat = 102) :
    Calls Tryz.prog 78 #[v, .string s, .int .u8 (q.toNat : Int)] w (EscPost w v base k bs ([12], 1)) := by
  have HV := Lib.hid hv
  have t97 : ((s[0].toNat : Int) == 97) = false := by rw [HV.out]; rfl
  have t98 : ((s[0].toNat : Int) == 98) = false := by rw [HV.out]; rfl
  have t116 : ((s[0].toNat : Int) == 116) = false := by rw [HV.out]; rfl
  have t110 : ((s[0].toNat : Int) == 110) = false := by rw [HV.out]; rfl
  have t118 : ((s[0].toNat : Int) == 118) = false := by rw [HV.out]; rfl
  have t102 : ((s[0].toNat : Int) == 102) = true := by rw [HV.out]; rfl
  have t114 : ((s[0].toNat : Int) == 114) = false := by rw [HV.out]; rfl
  have t92 : ((s[0].toNat : Int) == 92) = false := by rw [HV.out]; rfl
  have t120 : ((s[0].toNat : Int) == 120) = false := by rw [HV.out]; rfl
  have t117 : ((s[0].toNat : Int) == 117) = false := by rw [HV.out]; rfl
  have t85 : ((s[0].toNat : Int) == 85) = false := by rw [HV.out]; rfl
  have hp : plainB s[0] = 12 := by rw [u8_lit (n := 102) (by omega) hv]; rfl
  clear hv
  obtain ⟨e1, e2⟩ := ne_facts h0
  go_enter Tryz.func78, Tryz.ntmps78
  go_wp2_with (first | (go_at_call 106; refine (utf_plain _ _).mono ?_; rintro e w' ⟨rfl, rfl⟩; rw [hp]) | (at_builtin; refine wpList_pushN rfl (.tmp 45) (.tmp 48) 40 rfl base 5 (.int .u8 0) 1 1 info_u8 Tryz.underlying40 rfl (by omega) v k _ rfl hown 1 _ rfl rfl (ints1 [_]) (by unfold maxLen; omega) (by omega) hbase ?_))
  intro v' w1 ho hg
  have HO := Lib.hid ho
  have HG := Lib.hid hg
  clear ho hg hown
  go_wp2_with fail
  go_ret2
  exact esc_post (us := [12]) 1 rfl rfl HO.out HG.out rfl
set_option maxRecDepth 100000 in
theorem utf_escape_114 (s : ByteArray) (q : UInt8) (w : World) (hs : s.size ≤ 281474976710656) (v : Value) (base k : Nat) (bs : List UInt8) (hown : w.ownsRow base 5 1 v k (cellsOf bs)) (hbase : base ≤ w.heap.size) (hk : k ≤ 281474976710) (h0 : 0 < s.size) (hv : s[0].toNat = 114) :
    Calls Tryz.prog 78 #[v, .string s, .int .u8 (q.toNat : Int)] w (EscPost w v base k bs ([13], 1)) := by
  have HV := Lib.hid hv
  have t97 : ((s[0].toNat : Int) == 97) = false := by rw [HV.out]; rfl
  have t98 : ((s[0].toNat : Int) == 98) = false := by rw [HV.out]; rfl
  have t116 : ((s[0].toNat : Int) == 116) = false := by rw [HV.out]; rfl
  have t110 : ((s[0].toNat : Int) == 110) = false := by rw [HV.out]; rfl
  have t118 : ((s[0].toNat : Int) == 118) = false := by rw [HV.out]; rfl
  have t102 : ((s[0].toNat : Int) == 102) = false := by rw [HV.out]; rfl
  have t114 : ((s[0].toNat : Int) == 114) = true := by rw [HV.out]; rfl
  have t92 : ((s[0].toNat : Int) == 92) = false := by rw [HV.out]; rfl
  have t120 : ((s[0].toNat : Int) == 120) = false := by rw [HV.out]; rfl
  have t117 : ((s[0].toNat : Int) == 117) = false := by rw [HV.out]; rfl
  have t85 : ((s[0].toNat : Int) == 85) = false := by rw [HV.out]; rfl
  have hp : plainB s[0] = 13 := by rw [u8_lit (n := 114) (by omega) hv]; rfl
  clear hv
  obtain ⟨e1, e2⟩ := ne_facts h0
  go_enter Tryz.func78, Tryz.ntmps78
  go_wp2_with (first | (go_at_call 106; refine (utf_plain _ _).mono ?_; rintro e w' ⟨rfl, rfl⟩; rw [hp]) | (at_builtin; refine wpList_pushN rfl (.tmp 45) (.tmp 48) 40 rfl base 5 (.int .u8 0) 1 1 info_u8 Tryz.underlying40 rfl (by omega) v k _ rfl hown 1 _ rfl rfl (ints1 [_]) (by unfold maxLen; omega) (by omega) hbase ?_))
  intro v' w1 ho hg
  have HO := Lib.hid ho
  have HG := Lib.hid hg
  clear ho hg hown
  go_wp2_with fail
  go_ret2
  exact esc_post (us := [13]) 1 rfl rfl HO.out HG.out rfl
set_option maxRecDepth 100000 in
theorem utf_escape_bs (s : ByteArray) (q : UInt8) (w : World) (hs : s.size ≤ 281474976710656) (v : Value) (base k : Nat) (bs : List UInt8) (hown : w.ownsRow base 5 1 v k (cellsOf bs)) (hbase : base ≤ w.heap.size) (hk : k ≤ 281474976710) (h0 : 0 < s.size) (hv : s[0].toNat = 92) :
    Calls Tryz.prog 78 #[v, .string s, .int .u8 (q.toNat : Int)] w (EscPost w v base k bs ([s[0]], 1)) := by
  have HV := Lib.hid hv
  have t97 : ((s[0].toNat : Int) == 97) = false := by rw [HV.out]; rfl
  have t98 : ((s[0].toNat : Int) == 98) = false := by rw [HV.out]; rfl
  have t116 : ((s[0].toNat : Int) == 116) = false := by rw [HV.out]; rfl
  have t110 : ((s[0].toNat : Int) == 110) = false := by rw [HV.out]; rfl
  have t118 : ((s[0].toNat : Int) == 118) = false := by rw [HV.out]; rfl
  have t102 : ((s[0].toNat : Int) == 102) = false := by rw [HV.out]; rfl
  have t114 : ((s[0].toNat : Int) == 114) = false := by rw [HV.out]; rfl
  have t92 : ((s[0].toNat : Int) == 92) = true := by rw [HV.out]; rfl
  have t120 : ((s[0].toNat : Int) == 120) = false := by rw [HV.out]; rfl
  have t117 : ((s[0].toNat : Int) == 117) = false := by rw [HV.out]; rfl
  have t85 : ((s[0].toNat : Int) == 85) = false := by rw [HV.out]; rfl
  clear hv
  obtain ⟨e1, e2⟩ := ne_facts h0
  go_enter Tryz.func78, Tryz.ntmps78
  go_wp2_with (at_builtin; refine wpList_pushN rfl (.tmp 54) (.tmp 56) 40 rfl base 5 (.int .u8 0) 1 1 info_u8 Tryz.underlying40 rfl (by omega) v k _ rfl hown 1 _ rfl rfl (ints1 [_]) (by unfold maxLen; omega) (by omega) hbase ?_)
  intro v' w1 ho hg
  have HO := Lib.hid ho
  have HG := Lib.hid hg
  clear ho hg hown
  go_wp2_with fail
  go_ret2
  exact esc_post (us := [(s[0].toNat : Int)]) 1 rfl rfl HO.out HG.out rfl
set_option maxRecDepth 100000 in
theorem utf_escape_q (s : ByteArray) (q : UInt8) (w : World) (hs : s.size ≤ 281474976710656) (v : Value) (base k : Nat) (bs : List UInt8) (hown : w.ownsRow base 5 1 v k (cellsOf bs)) (hbase : base ≤ w.heap.size) (hk : k ≤ 281474976710) (h0 : 0 < s.size) (hn : ∀ t ∈ [97, 98, 116, 110, 118, 102, 114, 92], s[0].toNat ≠ t) (hq : s[0] = q) :
    Calls Tryz.prog 78 #[v, .string s, .int .u8 (q.toNat : Int)] w (EscPost w v base k bs ([s[0]], 1)) := by
  have t97 : ((s[0].toNat : Int) == 97) = false := by rw [beq_eq_false_iff_ne]; have := hn 97 (by simp); omega
  have t98 : ((s[0].toNat : Int) == 98) = false := by rw [beq_eq_false_iff_ne]; have := hn 98 (by simp); omega
  have t116 : ((s[0].toNat : Int) == 116) = false := by rw [beq_eq_false_iff_ne]; have := hn 116 (by simp); omega
  have t110 : ((s[0].toNat : Int) == 110) = false := by rw [beq_eq_false_iff_ne]; have := hn 110 (by simp); omega
  have t118 : ((s[0].toNat : Int) == 118) = false := by rw [beq_eq_false_iff_ne]; have := hn 118 (by simp); omega
  have t102 : ((s[0].toNat : Int) == 102) = false := by rw [beq_eq_false_iff_ne]; have := hn 102 (by simp); omega
  have t114 : ((s[0].toNat : Int) == 114) = false := by rw [beq_eq_false_iff_ne]; have := hn 114 (by simp); omega
  have t92 : ((s[0].toNat : Int) == 92) = false := by rw [beq_eq_false_iff_ne]; have := hn 92 (by simp); omega
  have tq : ((s[0].toNat : Int) == (q.toNat : Int)) = true := by rw [hq]; simp
  clear hn hq
  obtain ⟨e1, e2⟩ := ne_facts h0
  go_enter Tryz.func78, Tryz.ntmps78
  go_wp2_with (at_builtin; refine wpList_pushN rfl (.tmp 54) (.tmp 56) 40 rfl base 5 (.int .u8 0) 1 1 info_u8 Tryz.underlying40 rfl (by omega) v k _ rfl hown 1 _ rfl rfl (ints1 [_]) (by unfold maxLen; omega) (by omega) hbase ?_)
  intro v' w1 ho hg
  have HO := Lib.hid ho
  have HG := Lib.hid hg
  clear ho hg hown
  go_wp2_with fail
  go_ret2
  exact esc_post (us := [(s[0].toNat : Int)]) 1 rfl rfl HO.out HG.out rfl
set_option maxRecDepth 100000 in
theorem utf_escape_x_no (s : ByteArray) (q : UInt8) (w : World) (hs : s.size ≤ 281474976710656) (v : Value) (base k : Nat) (bs : List UInt8) (hown : w.ownsRow base 5 1 v k (cellsOf bs)) (hbase : base ≤ w.heap.size) (hk : k ≤ 281474976710) (h0 : 0 < s.size) (hv : s[0].toNat = 120) (hq : s[0] ≠ q) (hd : digsB (s.extract 1 s.size).data.toList 2 16 = none) :
    Calls Tryz.prog 78 #[v, .string s, .int .u8 (q.toNat : Int)] w (EscPost w v base k bs ([], 0)) := by
  have HV := Lib.hid hv
  have t97 : ((s[0].toNat : Int) == 97) = false := by rw [HV.out]; rfl
  have t98 : ((s[0].toNat : Int) == 98) = false := by rw [HV.out]; rfl
  have t116 : ((s[0].toNat : Int) == 116) = false := by rw [HV.out]; rfl
  have t110 : ((s[0].toNat : Int) == 110) = false := by rw [HV.out]; rfl
  have t118 : ((s[0].toNat : Int) == 118) = false := by rw [HV.out]; rfl
  have t102 : ((s[0].toNat : Int) == 102) = false := by rw [HV.out]; rfl
  have t114 : ((s[0].toNat : Int) == 114) = false := by rw [HV.out]; rfl
  have t92 : ((s[0].toNat : Int) == 92) = false := by rw [HV.out]; rfl
  have t120 : ((s[0].toNat : Int) == 120) = true := by rw [HV.out]; rfl
  have t117 : ((s[0].toNat : Int) == 117) = false := by rw [HV.out]; rfl
  have t85 : ((s[0].toNat : Int) == 85) = false := by rw [HV.out]; rfl
  have tq : ((s[0].toNat : Int) == (q.toNat : Int)) = false := by rw [beq_eq_false_iff_ne]; intro e; exact hq (UInt8.toNat_inj.1 (by omega))
  have hex : (s.extract 1 s.size).size ≤ 281474976710656 := by simp; omega
  clear hv hq
  have HD := Lib.hid hd
  have HX := Lib.hid hex
  clear hd hex
  obtain ⟨e1, e2⟩ := ne_facts h0
  go_enter Tryz.func78, Tryz.ntmps78
  go_wp2_with fail
  refine (utf_digits (s.extract 1 s.size) _ 2 (by omega) _ 16 (by omega) _ HX.out (by omega) (.inr rfl)).mono ?_
  rintro e w1 ⟨rfl, hb⟩
  rw [HD.out]
  have hown1 := own_below hown hb
  have hbase1 := Nat.le_trans hbase hb.size
  have HB := Lib.hid hb
  have HOW := Lib.hid hown1
  clear hown hb
  clear hown1
  go_wp2_with fail
  go_ret2
  exact esc_same HOW.out (grown_below HB.out _)
set_option maxRecDepth 100000 in
theorem utf_escape_x_yes (s : ByteArray) (q : UInt8) (w : World) (hs : s.size ≤ 281474976710656) (v : Value) (base k : Nat) (bs : List UInt8) (hown : w.ownsRow base 5 1 v k (cellsOf bs)) (hbase : base ≤ w.heap.size) (hk : k ≤ 281474976710) (h0 : 0 < s.size) (hv : s[0].toNat = 120) (hq : s[0] ≠ q) (V : Nat) (hV : V < 256) (hd : digsB (s.extract 1 s.size).data.toList 2 16 = some V) :
    Calls Tryz.prog 78 #[v, .string s, .int .u8 (q.toNat : Int)] w (EscPost w v base k bs ([UInt8.ofNat V], 3)) := by
  have HV := Lib.hid hv
  have t97 : ((s[0].toNat : Int) == 97) = false := by rw [HV.out]; rfl
  have t98 : ((s[0].toNat : Int) == 98) = false := by rw [HV.out]; rfl
  have t116 : ((s[0].toNat : Int) == 116) = false := by rw [HV.out]; rfl
  have t110 : ((s[0].toNat : Int) == 110) = false := by rw [HV.out]; rfl
  have t118 : ((s[0].toNat : Int) == 118) = false := by rw [HV.out]; rfl
  have t102 : ((s[0].toNat : Int) == 102) = false := by rw [HV.out]; rfl
  have t114 : ((s[0].toNat : Int) == 114) = false := by rw [HV.out]; rfl
  have t92 : ((s[0].toNat : Int) == 92) = false := by rw [HV.out]; rfl
  have t120 : ((s[0].toNat : Int) == 120) = true := by rw [HV.out]; rfl
  have t117 : ((s[0].toNat : Int) == 117) = false := by rw [HV.out]; rfl
  have t85 : ((s[0].toNat : Int) == 85) = false := by rw [HV.out]; rfl
  have tq : ((s[0].toNat : Int) == (q.toNat : Int)) = false := by rw [beq_eq_false_iff_ne]; intro e; exact hq (UInt8.toNat_inj.1 (by omega))
  have hex : (s.extract 1 s.size).size ≤ 281474976710656 := by simp; omega
  clear hv hq
  have HD := Lib.hid hd
  have HX := Lib.hid hex
  clear hd hex
  obtain ⟨e1, e2⟩ := ne_facts h0
  go_enter Tryz.func78, Tryz.ntmps78
  go_wp2_with fail
  refine (utf_digits (s.extract 1 s.size) _ 2 (by omega) _ 16 (by omega) _ HX.out (by omega) (.inr rfl)).mono ?_
  rintro e w1 ⟨rfl, hb⟩
  rw [HD.out]
  have hown1 := own_below hown hb
  have hbase1 := Nat.le_trans hbase hb.size
  have HB := Lib.hid hb
  have HOW := Lib.hid hown1
  clear hown hb
  clear HOW
  simp only [optN, Option.isSome]
  go_wp2_with (at_builtin; refine wpList_pushN rfl (.tmp 67) (.tmp 70) 40 rfl base 5 (.int .u8 0) 1 1 info_u8 Tryz.underlying40 rfl (by omega) v k _ rfl hown1 1 _ rfl rfl (ints1 [_]) (by unfold maxLen; omega) (by omega) hbase1 ?_)
  intro v' w2 ho hg
  have HO := Lib.hid ho
  have HG := Lib.hid hg
  clear ho hg hown1
  go_wp2_with fail
  go_ret2
  exact esc_post (us := [(V : Int)]) 1 rfl rfl HO.out (grow_trans (grown_below HB.out _) HG.out) (by simp; omega)
set_option maxRecDepth 100000 in
theorem utf_escape_117_no (s : ByteArray) (q : UInt8) (w : World) (hs : s.size ≤ 281474976710656) (v : Value) (base k : Nat) (bs : List UInt8) (hown : w.ownsRow base 5 1 v k (cellsOf bs)) (hbase : base ≤ w.heap.size) (hk : k ≤ 281474976710) (h0 : 0 < s.size) (hv : s[0].toNat = 117) (hq : s[0] ≠ q) (hd : digsB (s.extract 1 s.size).data.toList 4 16 = none) :
    Calls Tryz.prog 78 #[v, .string s, .int .u8 (q.toNat : Int)] w (EscPost w v base k bs ([], 0)) := by
  have HV := Lib.hid hv
  have t97 : ((s[0].toNat : Int) == 97) = false := by rw [HV.out]; rfl
  have t98 : ((s[0].toNat : Int) == 98) = false := by rw [HV.out]; rfl
  have t116 : ((s[0].toNat : Int) == 116) = false := by rw [HV.out]; rfl
  have t110 : ((s[0].toNat : Int) == 110) = false := by rw [HV.out]; rfl
  have t118 : ((s[0].toNat : Int) == 118) = false := by rw [HV.out]; rfl
  have t102 : ((s[0].toNat : Int) == 102) = false := by rw [HV.out]; rfl
  have t114 : ((s[0].toNat : Int) == 114) = false := by rw [HV.out]; rfl
  have t92 : ((s[0].toNat : Int) == 92) = false := by rw [HV.out]; rfl
  have t120 : ((s[0].toNat : Int) == 120) = false := by rw [HV.out]; rfl
  have t117 : ((s[0].toNat : Int) == 117) = true := by rw [HV.out]; rfl
  have t85 : ((s[0].toNat : Int) == 85) = false := by rw [HV.out]; rfl
  have tq : ((s[0].toNat : Int) == (q.toNat : Int)) = false := by rw [beq_eq_false_iff_ne]; intro e; exact hq (UInt8.toNat_inj.1 (by omega))
  have hex : (s.extract 1 s.size).size ≤ 281474976710656 := by simp; omega
  clear hv hq
  have HD := Lib.hid hd
  have HX := Lib.hid hex
  clear hd hex
  obtain ⟨e1, e2⟩ := ne_facts h0
  go_enter Tryz.func78, Tryz.ntmps78
  go_wp2_with fail
  refine (utf_digits (s.extract 1 s.size) _ 4 (by omega) _ 16 (by omega) _ HX.out (by omega) (.inr rfl)).mono ?_
  rintro e w1 ⟨rfl, hb⟩
  rw [HD.out]
  have hown1 := own_below hown hb
  have hbase1 := Nat.le_trans hbase hb.size
  have HB := Lib.hid hb
  clear hown hb
  simp only [optN, Option.isSome]
  have HOW := Lib.hid hown1
  clear hown1
  go_wp2_with fail
  go_ret2
  exact esc_same HOW.out (grown_below HB.out _)
set_option maxRecDepth 100000 in
theorem utf_escape_117_nor (s : ByteArray) (q : UInt8) (w : World) (hs : s.size ≤ 281474976710656) (v : Value) (base k : Nat) (bs : List UInt8) (hown : w.ownsRow base 5 1 v k (cellsOf bs)) (hbase : base ≤ w.heap.size) (hk : k ≤ 281474976710) (h0 : 0 < s.size) (hv : s[0].toNat = 117) (hq : s[0] ≠ q) (V : Nat) (hV : isRuneN V = false) (hV2 : (V : Int) ≤ 134217727) (hd : digsB (s.extract 1 s.size).data.toList 4 16 = some V) :
    Calls Tryz.prog 78 #[v, .string s, .int .u8 (q.toNat : Int)] w (EscPost w v base k bs ([], 0)) := by
  have HV := Lib.hid hv
  have t97 : ((s[0].toNat : Int) == 97) = false := by rw [HV.out]; rfl
  have t98 : ((s[0].toNat : Int) == 98) = false := by rw [HV.out]; rfl
  have t116 : ((s[0].toNat : Int) == 116) = false := by rw [HV.out]; rfl
  have t110 : ((s[0].toNat : Int) == 110) = false := by rw [HV.out]; rfl
  have t118 : ((s[0].toNat : Int) == 118) = false := by rw [HV.out]; rfl
  have t102 : ((s[0].toNat : Int) == 102) = false := by rw [HV.out]; rfl
  have t114 : ((s[0].toNat : Int) == 114) = false := by rw [HV.out]; rfl
  have t92 : ((s[0].toNat : Int) == 92) = false := by rw [HV.out]; rfl
  have t120 : ((s[0].toNat : Int) == 120) = false := by rw [HV.out]; rfl
  have t117 : ((s[0].toNat : Int) == 117) = true := by rw [HV.out]; rfl
  have t85 : ((s[0].toNat : Int) == 85) = false := by rw [HV.out]; rfl
  have tq : ((s[0].toNat : Int) == (q.toNat : Int)) = false := by rw [beq_eq_false_iff_ne]; intro e; exact hq (UInt8.toNat_inj.1 (by omega))
  have hex : (s.extract 1 s.size).size ≤ 281474976710656 := by simp; omega
  clear hv hq
  have HD := Lib.hid hd
  have HX := Lib.hid hex
  clear hd hex
  obtain ⟨e1, e2⟩ := ne_facts h0
  go_enter Tryz.func78, Tryz.ntmps78
  go_wp2_with fail
  refine (utf_digits (s.extract 1 s.size) _ 4 (by omega) _ 16 (by omega) _ HX.out (by omega) (.inr rfl)).mono ?_
  rintro e w1 ⟨rfl, hb⟩
  rw [HD.out]
  have hown1 := own_below hown hb
  have hbase1 := Nat.le_trans hbase hb.size
  have HB := Lib.hid hb
  clear hown hb
  simp only [optN, Option.isSome]
  have HOW := Lib.hid hown1
  clear hown1
  go_wp2_with fail
  refine (utf_isRune V _).mono ?_
  rintro e w' ⟨rfl, rfl⟩
  rw [hV]
  go_wp2_with fail
  go_ret2
  exact esc_same HOW.out (grown_below HB.out _)
set_option maxRecDepth 100000 in
theorem utf_escape_117_yes (s : ByteArray) (q : UInt8) (w : World) (hs : s.size ≤ 281474976710656) (v : Value) (base k : Nat) (bs : List UInt8) (hown : w.ownsRow base 5 1 v k (cellsOf bs)) (hbase : base ≤ w.heap.size) (hk : k ≤ 281474976710) (h0 : 0 < s.size) (hv : s[0].toNat = 117) (hq : s[0] ≠ q) (V : Nat) (hV : isRuneN V = true) (hd : digsB (s.extract 1 s.size).data.toList 4 16 = some V) :
    Calls Tryz.prog 78 #[v, .string s, .int .u8 (q.toNat : Int)] w (EscPost w v base k bs (formB V, 5)) := by
  have HV := Lib.hid hv
  have t97 : ((s[0].toNat : Int) == 97) = false := by rw [HV.out]; rfl
  have t98 : ((s[0].toNat : Int) == 98) = false := by rw [HV.out]; rfl
  have t116 : ((s[0].toNat : Int) == 116) = false := by rw [HV.out]; rfl
  have t110 : ((s[0].toNat : Int) == 110) = false := by rw [HV.out]; rfl
  have t118 : ((s[0].toNat : Int) == 118) = false := by rw [HV.out]; rfl
  have t102 : ((s[0].toNat : Int) == 102) = false := by rw [HV.out]; rfl
  have t114 : ((s[0].toNat : Int) == 114) = false := by rw [HV.out]; rfl
  have t92 : ((s[0].toNat : Int) == 92) = false := by rw [HV.out]; rfl
  have t120 : ((s[0].toNat : Int) == 120) = false := by rw [HV.out]; rfl
  have t117 : ((s[0].toNat : Int) == 117) = true := by rw [HV.out]; rfl
  have t85 : ((s[0].toNat : Int) == 85) = false := by rw [HV.out]; rfl
  have tq : ((s[0].toNat : Int) == (q.toNat : Int)) = false := by rw [beq_eq_false_iff_ne]; intro e; exact hq (UInt8.toNat_inj.1 (by omega))
  have hex : (s.extract 1 s.size).size ≤ 281474976710656 := by simp; omega
  clear hv hq
  have HD := Lib.hid hd
  have HX := Lib.hid hex
  clear hd hex
  obtain ⟨e1, e2⟩ := ne_facts h0
  go_enter Tryz.func78, Tryz.ntmps78
  go_wp2_with fail
  refine (utf_digits (s.extract 1 s.size) _ 4 (by omega) _ 16 (by omega) _ HX.out (by omega) (.inr rfl)).mono ?_
  rintro e w1 ⟨rfl, hb⟩
  rw [HD.out]
  have hown1 := own_below hown hb
  have hbase1 := Nat.le_trans hbase hb.size
  have HB := Lib.hid hb
  clear hown hb
  simp only [optN, Option.isSome]
  have HOW := Lib.hid hown1
  clear hown1
  have HR := Lib.hid hV
  go_wp2_with fail
  refine (utf_isRune V _).mono ?_
  rintro e w' ⟨rfl, rfl⟩
  rw [hV]
  clear hV
  go_wp2_with fail
  refine (utf_form V _ (isRuneN_le HR.out) v base k bs HOW.out hbase1 hk).mono ?_
  rintro e w2 ⟨v', rfl, ho, hg⟩
  have HO := Lib.hid ho
  have HG := Lib.hid hg
  clear ho hg
  go_wp2_with fail
  go_ret2
  exact ⟨v', rfl, HO.out, grow_trans (grown_below HB.out _) HG.out⟩
set_option maxRecDepth 100000 in
theorem utf_escape_85_no (s : ByteArray) (q : UInt8) (w : World) (hs : s.size ≤ 281474976710656) (v : Value) (base k : Nat) (bs : List UInt8) (hown : w.ownsRow base 5 1 v k (cellsOf bs)) (hbase : base ≤ w.heap.size) (hk : k ≤ 281474976710) (h0 : 0 < s.size) (hv : s[0].toNat = 85) (hq : s[0] ≠ q) (hd : digsB (s.extract 1 s.size).data.toList 8 16 = none) :
    Calls Tryz.prog 78 #[v, .string s, .int .u8 (q.toNat : Int)] w (EscPost w v base k bs ([], 0)) := by
  have HV := Lib.hid hv
  have t97 : ((s[0].toNat : Int) == 97) = false := by rw [HV.out]; rfl
  have t98 : ((s[0].toNat : Int) == 98) = false := by rw [HV.out]; rfl
  have t116 : ((s[0].toNat : Int) == 116) = false := by rw [HV.out]; rfl
  have t110 : ((s[0].toNat : Int) == 110) = false := by rw [HV.out]; rfl
  have t118 : ((s[0].toNat : Int) == 118) = false := by rw [HV.out]; rfl
  have t102 : ((s[0].toNat : Int) == 102) = false := by rw [HV.out]; rfl
  have t114 : ((s[0].toNat : Int) == 114) = false := by rw [HV.out]; rfl
  have t92 : ((s[0].toNat : Int) == 92) = false := by rw [HV.out]; rfl
  have t120 : ((s[0].toNat : Int) == 120) = false := by rw [HV.out]; rfl
  have t117 : ((s[0].toNat : Int) == 117) = false := by rw [HV.out]; rfl
  have t85 : ((s[0].toNat : Int) == 85) = true := by rw [HV.out]; rfl
  have tq : ((s[0].toNat : Int) == (q.toNat : Int)) = false := by rw [beq_eq_false_iff_ne]; intro e; exact hq (UInt8.toNat_inj.1 (by omega))
  have hex : (s.extract 1 s.size).size ≤ 281474976710656 := by simp; omega
  clear hv hq
  have HD := Lib.hid hd
  have HX := Lib.hid hex
  clear hd hex
  obtain ⟨e1, e2⟩ := ne_facts h0
  go_enter Tryz.func78, Tryz.ntmps78
  go_wp2_with fail
  refine (utf_digits (s.extract 1 s.size) _ 8 (by omega) _ 16 (by omega) _ HX.out (by omega) (.inr rfl)).mono ?_
  rintro e w1 ⟨rfl, hb⟩
  rw [HD.out]
  have hown1 := own_below hown hb
  have hbase1 := Nat.le_trans hbase hb.size
  have HB := Lib.hid hb
  clear hown hb
  simp only [optN, Option.isSome]
  have HOW := Lib.hid hown1
  clear hown1
  go_wp2_with fail
  go_ret2
  exact esc_same HOW.out (grown_below HB.out _)
set_option maxRecDepth 100000 in
theorem utf_escape_85_nor (s : ByteArray) (q : UInt8) (w : World) (hs : s.size ≤ 281474976710656) (v : Value) (base k : Nat) (bs : List UInt8) (hown : w.ownsRow base 5 1 v k (cellsOf bs)) (hbase : base ≤ w.heap.size) (hk : k ≤ 281474976710) (h0 : 0 < s.size) (hv : s[0].toNat = 85) (hq : s[0] ≠ q) (V : Nat) (hV : isRuneN V = false) (hV2 : (V : Int) ≤ 134217727) (hd : digsB (s.extract 1 s.size).data.toList 8 16 = some V) :
    Calls Tryz.prog 78 #[v, .string s, .int .u8 (q.toNat : Int)] w (EscPost w v base k bs ([], 0)) := by
  have HV := Lib.hid hv
  have t97 : ((s[0].toNat : Int) == 97) = false := by rw [HV.out]; rfl
  have t98 : ((s[0].toNat : Int) == 98) = false := by rw [HV.out]; rfl
  have t116 : ((s[0].toNat : Int) == 116) = false := by rw [HV.out]; rfl
  have t110 : ((s[0].toNat : Int) == 110) = false := by rw [HV.out]; rfl
  have t118 : ((s[0].toNat : Int) == 118) = false := by rw [HV.out]; rfl
  have t102 : ((s[0].toNat : Int) == 102) = false := by rw [HV.out]; rfl
  have t114 : ((s[0].toNat : Int) == 114) = false := by rw [HV.out]; rfl
  have t92 : ((s[0].toNat : Int) == 92) = false := by rw [HV.out]; rfl
  have t120 : ((s[0].toNat : Int) == 120) = false := by rw [HV.out]; rfl
  have t117 : ((s[0].toNat : Int) == 117) = false := by rw [HV.out]; rfl
  have t85 : ((s[0].toNat : Int) == 85) = true := by rw [HV.out]; rfl
  have tq : ((s[0].toNat : Int) == (q.toNat : Int)) = false := by rw [beq_eq_false_iff_ne]; intro e; exact hq (UInt8.toNat_inj.1 (by omega))
  have hex : (s.extract 1 s.size).size ≤ 281474976710656 := by simp; omega
  clear hv hq
  have HD := Lib.hid hd
  have HX := Lib.hid hex
  clear hd hex
  obtain ⟨e1, e2⟩ := ne_facts h0
  go_enter Tryz.func78, Tryz.ntmps78
  go_wp2_with fail
  refine (utf_digits (s.extract 1 s.size) _ 8 (by omega) _ 16 (by omega) _ HX.out (by omega) (.inr rfl)).mono ?_
  rintro e w1 ⟨rfl, hb⟩
  rw [HD.out]
  have hown1 := own_below hown hb
  have hbase1 := Nat.le_trans hbase hb.size
  have HB := Lib.hid hb
  clear hown hb
  simp only [optN, Option.isSome]
  have HOW := Lib.hid hown1
  clear hown1
  go_wp2_with fail
  refine (utf_isRune V _).mono ?_
  rintro e w' ⟨rfl, rfl⟩
  rw [hV]
  go_wp2_with fail
  go_ret2
  exact esc_same HOW.out (grown_below HB.out _)
set_option maxRecDepth 100000 in
theorem utf_escape_85_yes (s : ByteArray) (q : UInt8) (w : World) (hs : s.size ≤ 281474976710656) (v : Value) (base k : Nat) (bs : List UInt8) (hown : w.ownsRow base 5 1 v k (cellsOf bs)) (hbase : base ≤ w.heap.size) (hk : k ≤ 281474976710) (h0 : 0 < s.size) (hv : s[0].toNat = 85) (hq : s[0] ≠ q) (V : Nat) (hV : isRuneN V = true) (hd : digsB (s.extract 1 s.size).data.toList 8 16 = some V) :
    Calls Tryz.prog 78 #[v, .string s, .int .u8 (q.toNat : Int)] w (EscPost w v base k bs (formB V, 9)) := by
  have HV := Lib.hid hv
  have t97 : ((s[0].toNat : Int) == 97) = false := by rw [HV.out]; rfl
  have t98 : ((s[0].toNat : Int) == 98) = false := by rw [HV.out]; rfl
  have t116 : ((s[0].toNat : Int) == 116) = false := by rw [HV.out]; rfl
  have t110 : ((s[0].toNat : Int) == 110) = false := by rw [HV.out]; rfl
  have t118 : ((s[0].toNat : Int) == 118) = false := by rw [HV.out]; rfl
  have t102 : ((s[0].toNat : Int) == 102) = false := by rw [HV.out]; rfl
  have t114 : ((s[0].toNat : Int) == 114) = false := by rw [HV.out]; rfl
  have t92 : ((s[0].toNat : Int) == 92) = false := by rw [HV.out]; rfl
  have t120 : ((s[0].toNat : Int) == 120) = false := by rw [HV.out]; rfl
  have t117 : ((s[0].toNat : Int) == 117) = false := by rw [HV.out]; rfl
  have t85 : ((s[0].toNat : Int) == 85) = true := by rw [HV.out]; rfl
  have tq : ((s[0].toNat : Int) == (q.toNat : Int)) = false := by rw [beq_eq_false_iff_ne]; intro e; exact hq (UInt8.toNat_inj.1 (by omega))
  have hex : (s.extract 1 s.size).size ≤ 281474976710656 := by simp; omega
  clear hv hq
  have HD := Lib.hid hd
  have HX := Lib.hid hex
  clear hd hex
  obtain ⟨e1, e2⟩ := ne_facts h0
  go_enter Tryz.func78, Tryz.ntmps78
  go_wp2_with fail
  refine (utf_digits (s.extract 1 s.size) _ 8 (by omega) _ 16 (by omega) _ HX.out (by omega) (.inr rfl)).mono ?_
  rintro e w1 ⟨rfl, hb⟩
  rw [HD.out]
  have hown1 := own_below hown hb
  have hbase1 := Nat.le_trans hbase hb.size
  have HB := Lib.hid hb
  clear hown hb
  simp only [optN, Option.isSome]
  have HOW := Lib.hid hown1
  clear hown1
  have HR := Lib.hid hV
  go_wp2_with fail
  refine (utf_isRune V _).mono ?_
  rintro e w' ⟨rfl, rfl⟩
  rw [hV]
  clear hV
  go_wp2_with fail
  refine (utf_form V _ (isRuneN_le HR.out) v base k bs HOW.out hbase1 hk).mono ?_
  rintro e w2 ⟨v', rfl, ho, hg⟩
  have HO := Lib.hid ho
  have HG := Lib.hid hg
  clear ho hg
  go_wp2_with fail
  go_ret2
  exact ⟨v', rfl, HO.out, grow_trans (grown_below HB.out _) HG.out⟩
set_option maxRecDepth 100000 in
theorem utf_escape_oct_no (s : ByteArray) (q : UInt8) (w : World) (hs : s.size ≤ 281474976710656) (v : Value) (base k : Nat) (bs : List UInt8) (hown : w.ownsRow base 5 1 v k (cellsOf bs)) (hbase : base ≤ w.heap.size) (hk : k ≤ 281474976710) (h0 : 0 < s.size) (hn : ∀ t ∈ [97, 98, 116, 110, 118, 102, 114, 92, 120, 117, 85], s[0].toNat ≠ t) (hq : s[0] ≠ q) (hd : digsB s.data.toList 3 8 = none) :
    Calls Tryz.prog 78 #[v, .string s, .int .u8 (q.toNat : Int)] w (EscPost w v base k bs ([], 0)) := by
  have t97 : ((s[0].toNat : Int) == 97) = false := by rw [beq_eq_false_iff_ne]; have := hn 97 (by simp); omega
  have t98 : ((s[0].toNat : Int) == 98) = false := by rw [beq_eq_false_iff_ne]; have := hn 98 (by simp); omega
  have t116 : ((s[0].toNat : Int) == 116) = false := by rw [beq_eq_false_iff_ne]; have := hn 116 (by simp); omega
  have t110 : ((s[0].toNat : Int) == 110) = false := by rw [beq_eq_false_iff_ne]; have := hn 110 (by simp); omega
  have t118 : ((s[0].toNat : Int) == 118) = false := by rw [beq_eq_false_iff_ne]; have := hn 118 (by simp); omega
  have t102 : ((s[0].toNat : Int) == 102) = false := by rw [beq_eq_false_iff_ne]; have := hn 102 (by simp); omega
  have t114 : ((s[0].toNat : Int) == 114) = false := by rw [beq_eq_false_iff_ne]; have := hn 114 (by simp); omega
  have t92 : ((s[0].toNat : Int) == 92) = false := by rw [beq_eq_false_iff_ne]; have := hn 92 (by simp); omega
  have t120 : ((s[0].toNat : Int) == 120) = false := by rw [beq_eq_false_iff_ne]; have := hn 120 (by simp); omega
  have t117 : ((s[0].toNat : Int) == 117) = false := by rw [beq_eq_false_iff_ne]; have := hn 117 (by simp); omega
  have t85 : ((s[0].toNat : Int) == 85) = false := by rw [beq_eq_false_iff_ne]; have := hn 85 (by simp); omega
  have tq : ((s[0].toNat : Int) == (q.toNat : Int)) = false := by rw [beq_eq_false_iff_ne]; intro e; exact hq (UInt8.toNat_inj.1 (by omega))
  clear hn hq
  have HD := Lib.hid hd
  clear hd
  obtain ⟨e1, e2⟩ := ne_facts h0
  go_enter Tryz.func78, Tryz.ntmps78
  go_wp2_with fail
  refine (utf_digits s _ 3 (by omega) _ 8 (by omega) _ hs (by omega) (.inl rfl)).mono ?_
  rintro e w1 ⟨rfl, hb⟩
  rw [HD.out]
  have hown1 := own_below hown hb
  have hbase1 := Nat.le_trans hbase hb.size
  have HB := Lib.hid hb
  clear hown hb
  simp only [optN, Option.isSome]
  have HOW := Lib.hid hown1
  clear hown1
  go_wp2_with fail
  go_ret2
  exact esc_same HOW.out (grown_below HB.out _)
set_option maxRecDepth 100000 in
theorem utf_escape_oct_big (s : ByteArray) (q : UInt8) (w : World) (hs : s.size ≤ 281474976710656) (v : Value) (base k : Nat) (bs : List UInt8) (hown : w.ownsRow base 5 1 v k (cellsOf bs)) (hbase : base ≤ w.heap.size) (hk : k ≤ 281474976710) (h0 : 0 < s.size) (hn : ∀ t ∈ [97, 98, 116, 110, 118, 102, 114, 92, 120, 117, 85], s[0].toNat ≠ t) (hq : s[0] ≠ q) (V : Nat) (hV : 255 < (V : Int)) (hd : digsB s.data.toList 3 8 = some V) :
    Calls Tryz.prog 78 #[v, .string s, .int .u8 (q.toNat : Int)] w (EscPost w v base k bs ([], 0)) := by
  have t97 : ((s[0].toNat : Int) == 97) = false := by rw [beq_eq_false_iff_ne]; have := hn 97 (by simp); omega
  have t98 : ((s[0].toNat : Int) == 98) = false := by rw [beq_eq_false_iff_ne]; have := hn 98 (by simp); omega
  have t116 : ((s[0].toNat : Int) == 116) = false := by rw [beq_eq_false_iff_ne]; have := hn 116 (by simp); omega
  have t110 : ((s[0].toNat : Int) == 110) = false := by rw [beq_eq_false_iff_ne]; have := hn 110 (by simp); omega
  have t118 : ((s[0].toNat : Int) == 118) = false := by rw [beq_eq_false_iff_ne]; have := hn 118 (by simp); omega
  have t102 : ((s[0].toNat : Int) == 102) = false := by rw [beq_eq_false_iff_ne]; have := hn 102 (by simp); omega
  have t114 : ((s[0].toNat : Int) == 114) = false := by rw [beq_eq_false_iff_ne]; have := hn 114 (by simp); omega
  have t92 : ((s[0].toNat : Int) == 92) = false := by rw [beq_eq_false_iff_ne]; have := hn 92 (by simp); omega
  have t120 : ((s[0].toNat : Int) == 120) = false := by rw [beq_eq_false_iff_ne]; have := hn 120 (by simp); omega
  have t117 : ((s[0].toNat : Int) == 117) = false := by rw [beq_eq_false_iff_ne]; have := hn 117 (by simp); omega
  have t85 : ((s[0].toNat : Int) == 85) = false := by rw [beq_eq_false_iff_ne]; have := hn 85 (by simp); omega
  have tq : ((s[0].toNat : Int) == (q.toNat : Int)) = false := by rw [beq_eq_false_iff_ne]; intro e; exact hq (UInt8.toNat_inj.1 (by omega))
  clear hn hq
  have HD := Lib.hid hd
  clear hd
  obtain ⟨e1, e2⟩ := ne_facts h0
  go_enter Tryz.func78, Tryz.ntmps78
  go_wp2_with fail
  refine (utf_digits s _ 3 (by omega) _ 8 (by omega) _ hs (by omega) (.inl rfl)).mono ?_
  rintro e w1 ⟨rfl, hb⟩
  rw [HD.out]
  have hown1 := own_below hown hb
  have hbase1 := Nat.le_trans hbase hb.size
  have HB := Lib.hid hb
  clear hown hb
  simp only [optN, Option.isSome]
  have HOW := Lib.hid hown1
  clear hown1
  go_wp2_with fail
  go_ret2
  exact esc_same HOW.out (grown_below HB.out _)
set_option maxRecDepth 100000 in
theorem utf_escape_oct_yes (s : ByteArray) (q : UInt8) (w : World) (hs : s.size ≤ 281474976710656) (v : Value) (base k : Nat) (bs : List UInt8) (hown : w.ownsRow base 5 1 v k (cellsOf bs)) (hbase : base ≤ w.heap.size) (hk : k ≤ 281474976710) (h0 : 0 < s.size) (hn : ∀ t ∈ [97, 98, 116, 110, 118, 102, 114, 92, 120, 117, 85], s[0].toNat ≠ t) (hq : s[0] ≠ q) (V : Nat) (hV : (V : Int) ≤ 255) (hd : digsB s.data.toList 3 8 = some V) :
    Calls Tryz.prog 78 #[v, .string s, .int .u8 (q.toNat : Int)] w (EscPost w v base k bs ([UInt8.ofNat V], 3)) := by
  have t97 : ((s[0].toNat : Int) == 97) = false := by rw [beq_eq_false_iff_ne]; have := hn 97 (by simp); omega
  have t98 : ((s[0].toNat : Int) == 98) = false := by rw [beq_eq_false_iff_ne]; have := hn 98 (by simp); omega
  have t116 : ((s[0].toNat : Int) == 116) = false := by rw [beq_eq_false_iff_ne]; have := hn 116 (by simp); omega
  have t110 : ((s[0].toNat : Int) == 110) = false := by rw [beq_eq_false_iff_ne]; have := hn 110 (by simp); omega
  have t118 : ((s[0].toNat : Int) == 118) = false := by rw [beq_eq_false_iff_ne]; have := hn 118 (by simp); omega
  have t102 : ((s[0].toNat : Int) == 102) = false := by rw [beq_eq_false_iff_ne]; have := hn 102 (by simp); omega
  have t114 : ((s[0].toNat : Int) == 114) = false := by rw [beq_eq_false_iff_ne]; have := hn 114 (by simp); omega
  have t92 : ((s[0].toNat : Int) == 92) = false := by rw [beq_eq_false_iff_ne]; have := hn 92 (by simp); omega
  have t120 : ((s[0].toNat : Int) == 120) = false := by rw [beq_eq_false_iff_ne]; have := hn 120 (by simp); omega
  have t117 : ((s[0].toNat : Int) == 117) = false := by rw [beq_eq_false_iff_ne]; have := hn 117 (by simp); omega
  have t85 : ((s[0].toNat : Int) == 85) = false := by rw [beq_eq_false_iff_ne]; have := hn 85 (by simp); omega
  have tq : ((s[0].toNat : Int) == (q.toNat : Int)) = false := by rw [beq_eq_false_iff_ne]; intro e; exact hq (UInt8.toNat_inj.1 (by omega))
  clear hn hq
  have HD := Lib.hid hd
  clear hd
  obtain ⟨e1, e2⟩ := ne_facts h0
  go_enter Tryz.func78, Tryz.ntmps78
  go_wp2_with fail
  refine (utf_digits s _ 3 (by omega) _ 8 (by omega) _ hs (by omega) (.inl rfl)).mono ?_
  rintro e w1 ⟨rfl, hb⟩
  rw [HD.out]
  have hown1 := own_below hown hb
  have hbase1 := Nat.le_trans hbase hb.size
  have HB := Lib.hid hb
  clear hown hb
  simp only [optN, Option.isSome]
  go_wp2_with (at_builtin; refine wpList_pushN rfl (.tmp 32) (.tmp 35) 40 rfl base 5 (.int .u8 0) 1 1 info_u8 Tryz.underlying40 rfl (by omega) v k _ rfl hown1 1 _ rfl rfl (ints1 [_]) (by unfold maxLen; omega) (by omega) hbase1 ?_)
  intro v' w2 ho hg
  have HO := Lib.hid ho
  have HG := Lib.hid hg
  clear ho hg hown1
  go_wp2_with fail
  go_ret2
  exact esc_post (us := [(V : Int)]) 1 rfl rfl HO.out (grow_trans (grown_below HB.out _) HG.out) (by simp; omega)

theorem digsGoB_le {base : Nat} (hb : base ≤ 16) : ∀ {l : List UInt8} {v r : Nat}, digsGoB base v l = some r → v ≤ 134217727 → r ≤ 134217727
  | [], v, r, h, hv => by simp [digsGoB] at h; omega
  | c :: l, v, r, h, hv => by
    simp only [digsGoB] at h
    cases hd : digVal c with
    | none => rw [hd] at h; simp at h
    | some d =>
      rw [hd] at h
      simp only at h
      split at h
      · rename_i hx
        have : v * base ≤ 8388607 * 16 := Nat.mul_le_mul hx.2 hb
        exact digsGoB_le hb h (by omega)
      · simp at h
theorem digsB_le {l : List UInt8} {n base V : Nat} (h : digsB l n base = some V) (hb : base ≤ 16) : (V : Int) ≤ 134217727 := by
  unfold digsB at h
  split at h
  · simp at h
  · have := digsGoB_le hb h (by omega)
    omega
theorem utf_escape (s : ByteArray) (q : UInt8) (w : World) (hs : s.size ≤ 281474976710656) (v : Value) (base k : Nat) (bs : List UInt8) (hown : w.ownsRow base 5 1 v k (cellsOf bs)) (hbase : base ≤ w.heap.size) (hk : k ≤ 281474976710) :
    Calls Tryz.prog 78 #[v, .string s, .int .u8 (q.toNat : Int)] w (EscPost w v base k bs (escB q s.data.toList)) := by
  cases hl : s.data.toList with
  | nil =>
    have : s = ⟨#[]⟩ := by rw [← mk_data s, hl]
    subst this
    exact utf_escape_nil q w v base k bs hown hbase hk
  | cons c r =>
    have h0 : 0 < s.size := by rw [← len_data, hl]; simp
    have hc := head_eq hl h0
    have ht := tail_eq hl
    by_cases hp : isPlain c = true
    · rw [esc_plain hp]
      have e : c = 97 ∨ c = 98 ∨ c = 116 ∨ c = 110 ∨ c = 118 ∨ c = 102 ∨ c = 114 := by simpa [isPlain, or_assoc] using hp
      rw [← hc] at e ⊢
      rcases e with e | e | e | e | e | e | e
      · rw [show plainB s[0] = 7 by rw [e]; rfl]; exact utf_escape_97 s q w hs v base k bs hown hbase hk h0 (by rw [e]; rfl)
      · rw [show plainB s[0] = 8 by rw [e]; rfl]; exact utf_escape_98 s q w hs v base k bs hown hbase hk h0 (by rw [e]; rfl)
      · rw [show plainB s[0] = 9 by rw [e]; rfl]; exact utf_escape_116 s q w hs v base k bs hown hbase hk h0 (by rw [e]; rfl)
      · rw [show plainB s[0] = 10 by rw [e]; rfl]; exact utf_escape_110 s q w hs v base k bs hown hbase hk h0 (by rw [e]; rfl)
      · rw [show plainB s[0] = 11 by rw [e]; rfl]; exact utf_escape_118 s q w hs v base k bs hown hbase hk h0 (by rw [e]; rfl)
      · rw [show plainB s[0] = 12 by rw [e]; rfl]; exact utf_escape_102 s q w hs v base k bs hown hbase hk h0 (by rw [e]; rfl)
      · rw [show plainB s[0] = 13 by rw [e]; rfl]; exact utf_escape_114 s q w hs v base k bs hown hbase hk h0 (by rw [e]; rfl)
    · have hp' : isPlain c = false := by simpa using hp
      have np : ∀ t ∈ [97, 98, 116, 110, 118, 102, 114], s[0].toNat ≠ t := by
        intro t htm e
        apply hp
        rw [← hc]
        simp only [List.mem_cons, List.not_mem_nil, or_false] at htm
        rcases htm with rfl | rfl | rfl | rfl | rfl | rfl | rfl
        all_goals (rw [u8_lit (by omega) e]; rfl)
      by_cases h92 : c = 92
      · rw [esc_self hp' (.inl h92), ← hc]
        exact utf_escape_bs s q w hs v base k bs hown hbase hk h0 (by rw [hc, h92]; rfl)
      · have n92 : s[0].toNat ≠ 92 := fun e => h92 (by rw [← hc]; exact u8_lit (n := 92) (by omega) e)
        by_cases hq : c = q
        · rw [esc_self hp' (.inr hq), ← hc]
          exact utf_escape_q s q w hs v base k bs hown hbase hk h0 (by
            intro t htm
            simp only [List.mem_cons, List.not_mem_nil, or_false] at htm np
            rcases htm with h | h | h | h | h | h | h | h
            all_goals first | (subst h; exact n92) | exact np t (by simp [h])) (by rw [hc, hq])
        · have hq' : s[0] ≠ q := by rw [hc]; exact hq
          by_cases h120 : c = 120
          · rw [esc_x h120 hq, ← ht]
            have hv : s[0].toNat = 120 := by rw [hc, h120]; rfl
            cases hd : digsB (s.extract 1 s.size).data.toList 2 16 with
            | none => exact utf_escape_x_no s q w hs v base k bs hown hbase hk h0 hv hq' hd
            | some V =>
              have hV : V < 256 := by
                rw [digsB_16_2] at hd
                exact digs_lt (by omega) hd
              exact utf_escape_x_yes s q w hs v base k bs hown hbase hk h0 hv hq' V hV hd
          · have n120 : s[0].toNat ≠ 120 := fun e => h120 (by rw [← hc]; exact u8_lit (n := 120) (by omega) e)
            by_cases h117 : c = 117
            · rw [esc_u h117 hq, ← ht]
              have hv : s[0].toNat = 117 := by rw [hc, h117]; rfl
              cases hd : digsB (s.extract 1 s.size).data.toList 4 16 with
              | none => exact utf_escape_117_no s q w hs v base k bs hown hbase hk h0 hv hq' hd
              | some V =>
                cases hr : isRuneN V
                · simp only [hr]; exact utf_escape_117_nor s q w hs v base k bs hown hbase hk h0 hv hq' V hr (digsB_le hd (by omega)) hd
                · simp only [hr]; exact utf_escape_117_yes s q w hs v base k bs hown hbase hk h0 hv hq' V hr hd
            · have n117 : s[0].toNat ≠ 117 := fun e => h117 (by rw [← hc]; exact u8_lit (n := 117) (by omega) e)
              by_cases h85 : c = 85
              · rw [esc_U h85 hq, ← ht]
                have hv : s[0].toNat = 85 := by rw [hc, h85]; rfl
                cases hd : digsB (s.extract 1 s.size).data.toList 8 16 with
                | none => exact utf_escape_85_no s q w hs v base k bs hown hbase hk h0 hv hq' hd
                | some V =>
                  cases hr : isRuneN V
                  · simp only [hr]; exact utf_escape_85_nor s q w hs v base k bs hown hbase hk h0 hv hq' V hr (digsB_le hd (by omega)) hd
                  · simp only [hr]; exact utf_escape_85_yes s q w hs v base k bs hown hbase hk h0 hv hq' V hr hd
              · have n85 : s[0].toNat ≠ 85 := fun e => h85 (by rw [← hc]; exact u8_lit (n := 85) (by omega) e)
                rw [esc_oct hp' h92 hq h120 h117 h85, ← hl]
                have nn : ∀ t ∈ [97, 98, 116, 110, 118, 102, 114, 92, 120, 117, 85], s[0].toNat ≠ t := by
                  intro t htm
                  simp only [List.mem_cons, List.not_mem_nil, or_false] at htm np
                  rcases htm with h | h | h | h | h | h | h | h | h | h | h
                  all_goals first | (subst h; assumption) | exact np t (by simp [h])
                cases hd : digsB s.data.toList 3 8 with
                | none => exact utf_escape_oct_no s q w hs v base k bs hown hbase hk h0 nn hq' hd
                | some V =>
                  by_cases hV : V ≤ 255
                  · simp only [if_pos hV]; exact utf_escape_oct_yes s q w hs v base k bs hown hbase hk h0 nn hq' V (by omega) hd
                  · simp only [if_neg hV]; exact utf_escape_oct_big s q w hs v base k bs hown hbase hk h0 nn hq' V (by omega) hd
end Go.Proofs.YtpkeonafcldkhaaGreatDoor
/- utf: Unquote. -/
set_option linter.unusedVariables false
set_option linter.unusedSimpArgs false
namespace Go.Proofs.YtpkeonafcldkhaaGreatDoor
open Go.RowKit

theorem escOut_n {q : UInt8} {l b : List UInt8} {n : Nat} (h : escOut q l = some (b, n)) : 1 ≤ n ∧ n ≤ l.length ∧ b.length ≤ n := by
  have dlen : ∀ {l : List UInt8} {n base r : Nat}, digs l n base = some r → n ≤ l.length := by
    intro l n base r h
    unfold digs at h
    split at h
    · simp at h
    · omega
  cases l with
  | nil => simp [escOut] at h
  | cons c r =>
    simp only [escOut] at h
    split at h
    · simp only [Option.some.injEq, Prod.mk.injEq] at h; obtain ⟨rfl, rfl⟩ := h; simp
    · split at h
      · simp only [Option.some.injEq, Prod.mk.injEq] at h; obtain ⟨rfl, rfl⟩ := h; simp
      · split at h
        · obtain ⟨V, hV, h2⟩ := Option.map_eq_some_iff.1 h
          simp only [Prod.mk.injEq] at h2; obtain ⟨rfl, rfl⟩ := h2
          have := dlen hV; simp; omega
        · split at h
          · obtain ⟨V, hV, h2⟩ := Option.bind_eq_some_iff.1 h
            split at h2
            · simp only [Option.some.injEq, Prod.mk.injEq] at h2; obtain ⟨rfl, rfl⟩ := h2
              have := dlen hV; have := formB_len V; simp; omega
            · simp at h2
          · split at h
            · obtain ⟨V, hV, h2⟩ := Option.bind_eq_some_iff.1 h
              split at h2
              · simp only [Option.some.injEq, Prod.mk.injEq] at h2; obtain ⟨rfl, rfl⟩ := h2
                have := dlen hV; have := formB_len V; simp; omega
              · simp at h2
            · obtain ⟨V, hV, h2⟩ := Option.bind_eq_some_iff.1 h
              split at h2
              · simp only [Option.some.injEq, Prod.mk.injEq] at h2; obtain ⟨rfl, rfl⟩ := h2
                have := dlen hV; simp at *; omega
              · simp at h2
theorem unesc_fuel (q : UInt8) : ∀ (f g : Nat) (l : List UInt8), l.length ≤ f → l.length ≤ g → unesc q f l = unesc q g l
  | 0, 0, l, _, _ => rfl
  | 0, g + 1, l, h, _ => by
    have : l = [] := List.eq_nil_of_length_eq_zero (by omega)
    subst this; rfl
  | f + 1, 0, l, _, h => by
    have : l = [] := List.eq_nil_of_length_eq_zero (by omega)
    subst this; rfl
  | f + 1, g + 1, l, hf, hg => by
    cases l with
    | nil => rfl
    | cons c r =>
      simp only [unesc]
      simp only [List.length_cons] at hf hg
      split
      · rw [unesc_fuel q f g r (by omega) (by omega)]
      · cases he : escOut q r with
        | none => rfl
        | some p =>
          obtain ⟨b, n⟩ := p
          have := escOut_n he
          simp only
          rw [unesc_fuel q f g (r.drop n) (by simp; omega) (by simp; omega)]
/-- What is left to be read of the inside from place k on, bs being read. -/
def unAt (q : UInt8) (I : List UInt8) (k : Nat) (bs : List UInt8) : Option (List UInt8) := (unesc q I.length (I.drop k)).map (bs ++ ·)
theorem unAt_end {q : UInt8} {I bs : List UInt8} {k : Nat} (h : I.length ≤ k) : unAt q I k bs = some bs := by
  rw [unAt, List.drop_eq_nil_of_le h]
  cases I.length <;> simp [unesc]
theorem unAt_plain {q : UInt8} {I bs : List UInt8} {k : Nat} (h : k < I.length) (hc : atB I k ≠ 92) : unAt q I (k + 1) (bs ++ [atB I k]) = unAt q I k bs := by
  rw [unAt, unAt, drop_at h]
  obtain ⟨f, hf⟩ : ∃ f, I.length = f + 1 := ⟨I.length - 1, by omega⟩
  rw [hf, unesc, if_pos hc, unesc_fuel q (f + 1) f (I.drop (k + 1)) (by simp; omega) (by simp; omega)]
  cases unesc q f (I.drop (k + 1)) <;> simp
theorem unAt_none {q : UInt8} {I bs : List UInt8} {k : Nat} (h : k < I.length) (hc : atB I k = 92) (he : escOut q (I.drop (k + 1)) = none) : unAt q I k bs = none := by
  rw [unAt, drop_at h]
  obtain ⟨f, hf⟩ : ∃ f, I.length = f + 1 := ⟨I.length - 1, by omega⟩
  rw [hf, unesc, if_neg (by simp [hc]), he]; rfl
theorem unAt_esc {q : UInt8} {I bs b : List UInt8} {k n : Nat} (h : k < I.length) (hc : atB I k = 92) (he : escOut q (I.drop (k + 1)) = some (b, n)) : unAt q I (k + 1 + n) (bs ++ b) = unAt q I k bs := by
  have hn := escOut_n he
  rw [unAt, unAt, drop_at h]
  obtain ⟨f, hf⟩ : ∃ f, I.length = f + 1 := ⟨I.length - 1, by omega⟩
  rw [hf, unesc, if_neg (by simp [hc]), he]
  simp only
  rw [List.drop_drop, unesc_fuel q (f + 1) f (I.drop (k + 1 + n)) (by simp; omega) (by simp; omega)]
  cases unesc q f (I.drop (k + 1 + n)) <;> simp
theorem escB_none {q : UInt8} {l : List UInt8} (h : escOut q l = none) : escB q l = ([], 0) := by rw [escB, h]; rfl
theorem escB_some {q : UInt8} {l b : List UInt8} {n : Nat} (h : escOut q l = some (b, n)) : escB q l = (b, n) := by rw [escB, h]; rfl
/-- The inside of a literal. -/
def inside (l : List UInt8) : List UInt8 := (l.drop 1).take (l.length - 2)
theorem inside_eq (s : ByteArray) : (s.extract 1 (s.size - 1)).data.toList = inside s.data.toList := by
  rw [Lib.extract_data, inside, len_data, show s.size - 1 - 1 = s.size - 2 by omega]
theorem run_string_own {P : Program} {w : World} {base : Nat} {v : Value} {k : Nat} {l : List UInt8} {e : TypeId} (h : w.ownsRow base e 1 v k (cellsOf l)) (src dst : TypeId) (hs : P.underlying src = some (.slice e)) (he : P.underlying e = some (.int .u8)) (hd : P.underlying dst = some .string) :
    (convert src dst v).run P w = .ok (.string ⟨l.toArray⟩) w := by
  have hl : l.length = k := by have := h.1; simpa [cellsOf] using this
  rcases h.2 with ⟨rfl, hk⟩ | ⟨g, cap, cur, rfl, _⟩
  · have : l = [] := List.eq_nil_of_length_eq_zero (by omega)
    subst this
    exact run_convert_bytes_nil w src e hs he 0 0 dst hd
  · exact run_string_of (bytesAt_of_own h) src dst e k cap hl.symm hs he hd
/-- What Unquote leaves. -/
def UnqPost (w : World) (r : Nat × List UInt8) (e : Ending) (w' : World) : Prop := e = .returned (.tuple #[.string ⟨r.2.toArray⟩, .int .i64 (r.1 : Int)]) ∧ Below w.heap.size w w'

set_option maxRecDepth 100000 in
theorem utf_unquote_bad (s : ByteArray) (w : World) (hs : s.size ≤ 281474976710656) (hv : valid s.data.toList = false) :
    Calls Tryz.prog 53 #[.string s] w (UnqPost w (4, [])) := by
  go_enter Tryz.func53, Tryz.ntmps53
  go_wp2_with fail
  refine (utf_valid s _ hs).mono ?_
  rintro e w1 ⟨rfl, hb⟩
  rw [hv]
  have HB := Lib.hid hb
  clear hb hv
  go_wp2_with fail
  go_ret2
  exact ⟨rfl, HB.out⟩
set_option maxRecDepth 100000 in
theorem utf_unquote_open (s : ByteArray) (w : World) (hs : s.size ≤ 281474976710656) (hv : valid s.data.toList = true) (hl : litEnd s.data.toList 0 ≠ some s.data.toList.length) :
    Calls Tryz.prog 53 #[.string s] w (UnqPost w (10, [])) := by
  go_enter Tryz.func53, Tryz.ntmps53
  go_wp2_with fail
  refine (utf_valid s _ hs).mono ?_
  rintro e w1 ⟨rfl, hb⟩
  rw [hv]
  have HB := Lib.hid hb
  have HL := Lib.hid hl
  clear hb hv hl
  go_wp2_with fail
  refine (utf_literal s 0 _ hs).mono ?_
  rintro e w2 ⟨rfl, rfl⟩
  have hl := HL.out
  clear HL
  cases he : litEnd s.data.toList 0 with
  | none =>
    clear hl
    simp only [optN, optE]
    go_wp2_with fail
    go_ret2
    exact ⟨rfl, HB.out⟩
  | some n =>
    have hn : n ≠ s.size := by rintro rfl; rw [he, len_data] at hl; exact hl rfl
    have hnb : ((n : Int) != (s.size : Int)) = true := by rw [bne_iff_ne]; omega
    clear hl hn
    simp only [optN, optE]
    go_wp2_with fail
    go_ret2
    exact ⟨rfl, HB.out⟩

def unqRes (T : Option (List UInt8)) : Nat × List UInt8 := match T with | none => (11, []) | some b => if valid b then (0, b) else (13, [])
theorem litEnd_two {l : List UInt8} (h : litEnd l 0 = some l.length) : 2 ≤ l.length ∧ isQuote (atB l 0) = true := by
  unfold litEnd at h
  split at h
  · rename_i hx
    obtain ⟨n, hn, hn2⟩ := Option.map_eq_some_iff.1 h
    have : ∀ (q : UInt8) (l : List UInt8) (n : Nat), litGo q l = some n → 1 ≤ n := by
      intro q l n h
      cases l with
      | nil => simp [litGo] at h
      | cons c r =>
        cases r with
        | nil => simp only [litGo] at h; split at h <;> simp at h; omega
        | cons d r =>
          simp only [litGo] at h
          repeat' split at h
          all_goals first | (simp at h; done) | (simp at h; omega) | skip
    have := this _ _ _ hn
    exact ⟨by omega, hx.2⟩
  · simp at h
set_option maxRecDepth 100000 in
set_option maxHeartbeats 400000 in
theorem utf_unquote_raw (s : ByteArray) (w : World) (hs : s.size ≤ 281474976710) (hv : valid s.data.toList = true) (hl : litEnd s.data.toList 0 = some s.data.toList.length) (h0 : 0 < s.size) (hq : s[0].toNat = 96) :
    Calls Tryz.prog 53 #[.string s] w (UnqPost w (0, inside s.data.toList)) := by
  have h2 := (litEnd_two hl).1
  rw [len_data] at hl h2
  have hw : IntKind.i64.wrap ((s.size : Int) - 1) = (s.size : Int) - 1 := by rw [IntKind.wrap_i64]; omega
  have hnb : ((s.size : Int) != (s.size : Int)) = false := by simp
  go_enter Tryz.func53, Tryz.ntmps53
  go_wp2_with fail
  refine (utf_valid s _ (by omega)).mono ?_
  rintro e w1 ⟨rfl, hb⟩
  rw [hv]
  have HB := Lib.hid hb
  have HL := Lib.hid hl
  have HQ := Lib.hid hq
  clear hb hv hl hq
  go_wp2_with fail
  refine (utf_literal s 0 _ (by omega)).mono ?_
  rintro e w2 ⟨rfl, rfl⟩
  rw [HL.out]
  simp only [optN, optE]
  go_wp2_with fail
  go_quiet (fail)
  have hq96 : ((s[0].toNat : Int) == 96) = true := by rw [HQ.out]; rfl
  go_wp2_with fail
  go_ret2
  exact ⟨by rw [← inside_eq, mk_data]; rfl, below_drewN HB.out _⟩
set_option maxRecDepth 100000 in
set_option maxHeartbeats 1000000 in
theorem utf_unquote_esc (s : ByteArray) (w : World) (hs : s.size ≤ 281474976710) (hv : valid s.data.toList = true) (hl : litEnd s.data.toList 0 = some s.data.toList.length) (h0 : 0 < s.size) (hq : s[0].toNat ≠ 96) (T : Option (List UInt8)) (hT : unAt s[0] (inside s.data.toList) 0 [] = T) :
    Calls Tryz.prog 53 #[.string s] w (UnqPost w (unqRes T)) := by
  have h2 := (litEnd_two hl).1
  rw [len_data] at hl h2
  have hw : IntKind.i64.wrap ((s.size : Int) - 1) = (s.size : Int) - 1 := by rw [IntKind.wrap_i64]; omega
  have hnb : ((s.size : Int) != (s.size : Int)) = false := by simp
  go_enter Tryz.func53, Tryz.ntmps53
  go_wp2_with fail
  refine (utf_valid s _ (by omega)).mono ?_
  rintro e w1 ⟨rfl, hb⟩
  rw [hv]
  have HL := Lib.hid hl
  have HQ := Lib.hid hq
  have HT := Lib.hid hT
  clear hv hl hq hT
  go_wp2_with fail
  refine (utf_literal s 0 _ (by omega)).mono ?_
  rintro e w2 ⟨rfl, rfl⟩
  rw [HL.out]
  simp only [optN, optE]
  go_wp2_with fail
  go_quiet (fail)
  have hq96 : ((s[0].toNat : Int) == 96) = false := by rw [beq_eq_false_iff_ne]; have := HQ.out; omega
  obtain ⟨t, ht⟩ : ∃ t, t = s.extract 1 (s.size - 1) := ⟨_, rfl⟩
  have htd : t.data.toList = inside s.data.toList := by rw [ht, inside_eq]
  have hts : t.size ≤ 281474976710 := by
    rw [← len_data, htd, inside]
    have := List.length_take_le (s.data.toList.length - 2) (s.data.toList.drop 1)
    rw [len_data] at this
    rw [len_data]
    omega
  rw [← ht]
  generalize hI : inside s.data.toList = I at HT htd
  have HD := Lib.hid htd
  clear ht htd hI hw hnb h2
  rename_i nq
  have hb2 := below_drewN hb nq
  clear hb
  generalize w1.drewN nq = w2 at hb2 ⊢
  obtain ⟨i0, hi0, hz0, hz1, hz2⟩ := info_parts info_u8
  go_wp2_with (at_make; refine wpList_make_own _ rfl (.const (.int .i64 0)) (.tmp 38) 40 rfl w.heap.size 5 i0 (.int .u8 0) 1 Tryz.underlying40 hi0 hz0 hz1 _ _ _ t.size rfl rfl rfl (by rw [hz2]; omega) (by unfold maxLen; omega) hb2.size ?_)
  intro w3 hown3 hgr3
  have hbel3 : Below w.heap.size w w3 := hb2.grown hgr3 hb2.size (by simp)
  have HO3 := Lib.hid hown3
  clear hi0 hz0 hz1 hz2 hown3 hgr3 hb2
  go_wp2_with fail
  go_loopw [8, 9] (fun v i wr => ∃ (k : Nat) (bs : List UInt8), k ≤ t.size ∧ bs.length ≤ k ∧ i = .int .i64 k ∧ wr.ownsRow w.heap.size 5 1 v bs.length (cellsOf bs) ∧ Below w.heap.size w wr ∧ Hid (unAt s[0] I k bs = T)) (fun _ i _ => t.size - (intOf i).toNat)
  case atStart => exact ⟨0, [], Nat.zero_le _, Nat.le_refl _, rfl, HO3.out, hbel3, HT.out⟩
  case round =>
    obtain ⟨k, bs, hk, hbs, rfl, hown, hbel, hT⟩ := hrel
    clear HT HO3 hbel3
    have hit : I.length = t.size := by rw [← HD.out, len_data]
    have HI := Lib.hid hit
    clear hit
    by_cases hlt : k < t.size
    · have hkI : k < I.length := by rw [HI.out]; exact hlt
      have hat : atB I k = t[k] := by rw [← HD.out]; exact atB_lt hlt
      cases hc : ((t[k].toNat : Int) != 92)
      · have hc92 : atB I k = 92 := by rw [hat]; exact litT (n := 92) (by omega) rfl (by simpa [bne] using hc)
        have hrest : (t.extract (k + 1) t.size).data.toList = I.drop (k + 1) := by rw [extract_from, HD.out]
        have hex : (t.extract (k + 1) t.size).size ≤ 281474976710656 := by simp; omega
        have HX := Lib.hid hex
        have HA := Lib.hid hat
        cases he : escOut s[0] (I.drop (k + 1)) with
        | none =>
          have hTn := (unAt_none (bs := bs) hkI hc92 he).symm.trans hT.out
          have hes := escB_none he
          rw [← hrest] at hes
          have HE := Lib.hid hes
          have HTn := Lib.hid hTn
          clear hc92 hrest he hTn hes hat hex hT
          go_wp2_with fail
          refine (utf_escape (t.extract (k + 1) t.size) s[0] _ HX.out _ w.heap.size bs.length bs hown hbel.size (by omega)).mono ?_
          rintro e w4 ⟨v', rfl, ho, hg⟩
          rw [HE.out] at ho ⊢
          have HB := Lib.hid (hbel.grown hg hbel.size (fun g hg2 => (hown.lt g hg2).1))
          clear ho hg hown hbel
          go_wp2_with fail
          go_ret2
          exact ⟨by rw [← HTn.out]; rfl, HB.out⟩
        | some p =>
          obtain ⟨b, n⟩ := p
          have hn := escOut_n he
          have hTn := (unAt_esc (bs := bs) hkI hc92 he).trans hT.out
          have hes := escB_some he
          rw [← hrest] at hes
          rw [List.length_drop, HI.out] at hn
          obtain ⟨hn1, hn2, hn3⟩ := hn
          have hnb : ((n : Int) == 0) = false := by rw [beq_eq_false_iff_ne]; omega
          have HE := Lib.hid hes
          have HTn := Lib.hid hTn
          clear hc92 hrest he hTn hes hat hex hT
          go_wp2_with fail
          refine (utf_escape (t.extract (k + 1) t.size) s[0] _ HX.out _ w.heap.size bs.length bs hown hbel.size (by omega)).mono ?_
          rintro e w4 ⟨v', rfl, ho, hg⟩
          rw [HE.out] at ho ⊢
          have HB := Lib.hid (hbel.grown hg hbel.size (fun g hg2 => (hown.lt g hg2).1))
          have HO := Lib.hid ho
          clear ho hg hown hbel
          go_wp2_with fail
          go_roundw
          case rel => exact ⟨k + 1 + n, bs ++ b, by omega, by rw [List.length_append]; omega, by go_num, by rw [List.length_append]; exact HO.out, HB.out, HTn.out⟩
          case measure => simp [intOf]; omega
      · have hc92 : atB I k ≠ 92 := by rw [hat]; exact litF (n := 92) (by omega) rfl (by simpa [bne] using hc)
        have hTn := (unAt_plain (q := s[0]) (bs := bs) hkI hc92).trans hT.out
        rw [hat] at hTn
        have HTn := Lib.hid hTn
        clear hc92 hat hTn hT
        go_wp2_with (at_builtin; refine wpList_push rfl (.tmp 50) (.tmp 54) 40 rfl w.heap.size 5 (.int .u8 0) 1 1 info_u8 Tryz.underlying40 rfl (by omega) _ bs.length _ rfl hown [.int .u8 (t[k].toNat : Int)] rfl rfl (one1 rfl) (by unfold maxLen; omega) (by omega) hbel.size ?_)
        intro v' w4 ho hg
        have HB := Lib.hid (hbel.grown hg hbel.size (fun g hg2 => (hown.lt g hg2).1))
        have HO := Lib.hid ho
        clear ho hg hown hbel
        go_wp2_with fail
        go_roundw
        case rel => exact ⟨k + 1, bs ++ [t[k]], by omega, by simp; omega, by go_num, by rw [cellsOf_append, List.length_append]; exact HO.out, HB.out, HTn.out⟩
        case measure => simp [intOf]; omega
    · have hTe := (unAt_end (q := s[0]) (bs := bs) (k := k) (by rw [HI.out]; omega)).symm.trans hT.out
      have HTe := Lib.hid hTe
      have hback := run_string_own (P := Tryz.prog) hown 40 9 Tryz.underlying40 Tryz.underlying5 Tryz.underlying9
      have hsz : (⟨bs.toArray⟩ : ByteArray).size ≤ 281474976710656 := by simp [ByteArray.size]; omega
      have HS := Lib.hid hsz
      clear hTe hT hsz
      go_wp2_with fail
      refine (utf_valid ⟨bs.toArray⟩ _ HS.out).mono ?_
      rintro e w4 ⟨rfl, hb4⟩
      have hown4 := own_below hown hb4
      have hback4 := run_string_own (P := Tryz.prog) hown4 40 9 Tryz.underlying40 Tryz.underlying5 Tryz.underlying9
      have HB := Lib.hid (hbel.trans (hb4.mono hbel.size))
      clear hown hown4 hbel hb4 hback
      rw [show ((⟨bs.toArray⟩ : ByteArray).data.toList) = bs from by simp]
      cases hvb : valid bs
      · have HV := Lib.hid hvb
        clear hvb
        go_wp2_with fail
        go_ret2
        exact ⟨by rw [← HTe.out, unqRes]; simp [HV.out], HB.out⟩
      · have HV := Lib.hid hvb
        clear hvb
        go_wp2_with fail
        go_ret2
        exact ⟨by rw [← HTe.out, unqRes]; simp [HV.out], HB.out⟩

theorem inside_len {l : List UInt8} (h : 2 ≤ l.length) : (inside l).length = l.length - 2 := by
  rw [inside, List.length_take, List.length_drop]; omega
/-- Unquote, for every text that the scanner takes. -/
theorem utf_unquote (s : ByteArray) (w : World) (hs : s.size ≤ 281474976710) :
    Calls Tryz.prog 53 #[.string s] w (UnqPost w (unquote s.data.toList)) := by
  unfold unquote
  cases hv : valid s.data.toList
  · rw [if_pos rfl]
    exact utf_unquote_bad s w (by omega) hv
  · rw [if_neg (by simp)]
    by_cases hl : litEnd s.data.toList 0 = some s.data.toList.length
    · rw [if_neg (by simpa using hl)]
      have h2 := (litEnd_two hl).1
      have h0 : 0 < s.size := by rw [len_data] at h2; omega
      have hat := atB_lt h0
      rw [hat]
      by_cases hq : s[0] = 96
      · rw [if_pos hq]
        exact utf_unquote_raw s w hs hv hl h0 (by rw [hq]; rfl)
      · rw [if_neg hq]
        have hq' : s[0].toNat ≠ 96 := fun e => hq (u8_lit (n := 96) (by omega) e)
        have hT : unAt s[0] (inside s.data.toList) 0 [] = unesc s[0] s.data.toList.length (inside s.data.toList) := by
          rw [unAt, List.drop_zero, unesc_fuel s[0] (inside s.data.toList).length s.data.toList.length _ (Nat.le_refl _) (by rw [inside_len h2]; omega)]
          cases unesc s[0] s.data.toList.length (inside s.data.toList) <;> simp
        exact utf_unquote_esc s w hs hv hl h0 hq' _ hT
    · rw [if_pos hl]
      exact utf_unquote_open s w (by omega) hv hl
end Go.Proofs.YtpkeonafcldkhaaGreatDoor
