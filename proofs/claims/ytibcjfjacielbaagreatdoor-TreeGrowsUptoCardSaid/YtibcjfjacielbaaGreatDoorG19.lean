import Derived.Test.YtibcjfjacielbaaGreatDoorG04
import Derived.Test.YtibcjfjacielbaaGreatDoorG18
/- Part of the proof of YtibcjfjacielbaaGreatDoorCardG: TrN TrO TrQ TrXa TgP. -/
set_option linter.unusedVariables false
set_option linter.unusedSimpArgs false
namespace Go.Proofs.YtibcjfjacielbaaGreatDoor
open Go.RowKit
set_option maxRecDepth 100000 in
theorem tree_plainName {T : Nat → World → Prop} (hT : NumT (fun _ => True) T) (w : World) (s : ByteArray) (metric : Bool) (hs : s.size ≤ 1048576) (hTw : T w.heap.size w) :
  Calls Tryz.prog 173 #[.string s, .bool metric] w (BoolPost w (nameB s metric)) := by
 have HC := Lib.hid (tree_token hT w s hs hTw)
 have HWd : Hid (∀ W, Calls Tryz.prog 151 #[.string s] W fun e w' => e = .returned (.tuple #[.string (wordOut s.data.toList), .bool (word s.data.toList)]) ∧ Below W.heap.size W w') := Lib.hid fun W => lex_word s W (by unfold maxLen; omega)
 have HD : Hid (nameB s metric = ((tokK s == 1 || (metric && tokK s == 2)) && !word s.data.toList)) := Lib.hid rfl
 clear hTw
 generalize nameB s metric = nb at HD ⊢
 generalize tokK s = k at HC HD
 generalize word s.data.toList = wd at HWd HD
 generalize wordOut s.data.toList = wo at HWd
 go_enter Tryz.func173, Tryz.ntmps173
 go_wp2_with fail
 refine HC.out.mono ?_
 rintro e w2 ⟨rfl, hb⟩
 have HB := Lib.hid hb
 clear hb
 go_wp2_with fail
 refine (HWd.out w2).mono ?_
 rintro e w3 ⟨rfl, hb3⟩
 have HB3 := Lib.hid (HB.out.trans (hb3.mono HB.out.size))
 clear hb3 HC HWd
 have h1 : k = 1 ∨ (¬ k = 1 ∧ ((k : Int) == 1) = false) := by by_cases h : k = 1; exact .inl h; exact .inr ⟨h, by rw [beq_eq_false_iff_ne]; omega⟩
 have h2 : k = 2 ∨ (¬ k = 2 ∧ ((k : Int) == 2) = false) := by by_cases h : k = 2; exact .inl h; exact .inr ⟨h, by rw [beq_eq_false_iff_ne]; omega⟩
 rcases h1 with rfl | ⟨n1, i1⟩
 ·cases wd
  all_goals
   go_wp2_with fail
   go_ret
   exact ⟨by rw [HD.out]; rfl, HB3.out⟩
 ·have H1 := Lib.hid n1
  clear n1
  rcases h2 with rfl | ⟨n2, i2⟩
  ·cases metric <;> cases wd
   all_goals
    go_wp2_with fail
    go_ret
    exact ⟨by rw [HD.out]; rfl, HB3.out⟩
  ·have H2 := Lib.hid n2
   clear n2
   have HF : Hid (nb = false) := Lib.hid (by rw [HD.out]; simp [H1.out, H2.out])
   cases metric
   all_goals
    go_wp2_with fail
    go_ret
    exact ⟨by rw [HF.out]; rfl, HB3.out⟩
structure SmB where
 s : ByteArray
 h : s.size ≤ 1048576
structure SmM where
 m : PM
 h : m.name.size ≤ 1048576 ∧ m.value.size ≤ 1048576
instance : Inhabited SmB := ⟨⟨⟨#[]⟩, by decide⟩⟩
instance : Inhabited SmM := ⟨⟨⟨⟨#[]⟩, 0, ⟨#[]⟩⟩, by decide, by decide⟩⟩
theorem attachB (l : List ByteArray) (h : ∀ x ∈ l, x.size ≤ 1048576) : ∃ l' : List SmB, l'.map (·.s) = l := by
 induction l with
 |nil => exact ⟨[], rfl⟩
 |cons x l ih =>
  obtain ⟨l', hl⟩ := ih fun y hy => h y (List.mem_cons_of_mem _ hy)
  exact ⟨⟨x, h x (List.mem_cons_self ..)⟩ :: l', by rw [List.map_cons, hl]⟩
theorem attachM (l : List PM) (h : ∀ x ∈ l, x.name.size ≤ 1048576 ∧ x.value.size ≤ 1048576) : ∃ l' : List SmM, l'.map (·.m) = l := by
 induction l with
 |nil => exact ⟨[], rfl⟩
 |cons x l ih =>
  obtain ⟨l', hl⟩ := ih fun y hy => h y (List.mem_cons_of_mem _ hy)
  exact ⟨⟨x, h x (List.mem_cons_self ..)⟩ :: l', by rw [List.map_cons, hl]⟩
set_option maxRecDepth 100000 in
theorem label_not (s : ByteArray) (w : World) (hs : s.size ≤ 1048576) : Calls Tryz.prog 219 #[.string s] w fun e w' => e = .returned (.bool (!isLabel s.data.toList)) ∧ w = w' := by
 have HC : Hid (∀ W, Calls Tryz.prog 217 #[.string s] W fun e w' => e = .returned (.bool (isLabel s.data.toList)) ∧ W = w') := Lib.hid fun W => lex_isLabel s W (by unfold maxLen; omega)
 generalize isLabel s.data.toList = b at HC ⊢
 go_enter Tryz.func219, Tryz.ntmps219
 go_wp2_with fail
 refine (HC.out w).mono ?_
 rintro e w' ⟨rfl, rfl⟩
 go_wp2_with fail
 go_ret
 exact ⟨rfl, rfl⟩
theorem contains_str {b : Nat} {w : World} {v : Value} {ss : List ByteArray} (h : StrS b w v ss) (hn : ss.length ≤ 1048576) (hs : ∀ s ∈ ss, s.size ≤ 1048576) :
  Calls Tryz.prog 218 #[v, .func (.func 219) #[] #[]] w fun e w' => e = .returned (.bool (!labelsB ss)) ∧ Below w.heap.size w w' := by
 obtain ⟨ao, c, rfl, hc⟩ := h
 obtain ⟨zs, rfl⟩ := attachB ss hs
 have hlab : (!labelsB (zs.map (·.s))) = zs.any fun x => !isLabel x.s.data.toList := by
  unfold labelsB
  rw [List.all_map, List.any_eq_not_all_not]; simp [Function.comp_def]
 rw [hlab]
 cases ao with
 |none =>
  have h0 : zs = [] := by
   cases zs with
   |nil => rfl
   |cons m ms => obtain ⟨g, o, h, _⟩ := hc 0 (by simp); cases h
  subst h0
  refine (AnyE.slices_ContainsFunc_empty Tryz.containsS none c _ w).mono ?_
  rintro e w' ⟨rfl, rfl⟩
  exact ⟨rfl, Below.refl _ _⟩
 |some a =>
  rcases Nat.eq_zero_or_pos zs.length with h0 | h0
  ·have h1 : zs = [] := List.length_eq_zero_iff.1 h0
   subst h1
   refine (AnyE.slices_ContainsFunc_empty Tryz.containsS (some a) c _ w).mono ?_
   rintro e w' ⟨rfl, rfl⟩
   exact ⟨rfl, Below.refl _ _⟩
  ·obtain ⟨g, o, he, _⟩ := hc 0 (by simpa using h0)
   obtain rfl : a = ⟨g, o, none⟩ := Option.some.inj he
   rw [List.length_map] at hn ⊢
   refine (AnyE.slices_ContainsFunc (α := SmB) Tryz.containsS (fun x => .string x.s) (fun x => !isLabel x.s.data.toList) 219 #[] (enters_of Tryz.func219 (by kernel_rfl) rfl) g o zs.length c zs w ?_ (Nat.le_refl _) (by omega) ?_).mono ?_
   ·intro W x _
    refine (label_not x.s W x.h).mono ?_
    rintro e w' ⟨rfl, rfl⟩
    exact ⟨rfl, 0, rfl⟩
   ·intro j hj
    obtain ⟨g', o', he, _, _, hx⟩ := hc j (by simpa using hj)
    cases he
    rw [hx]
    rw [List.getElem_map, getElem!_pos zs j hj]
   ·rintro e w' ⟨rfl, q, rfl⟩
    exact ⟨by rw [List.take_length], Go.below_drewN (Below.refl _ _) q⟩
set_option maxRecDepth 100000 in
theorem tree_labelNames {b : Nat} {w : World} {v : Value} {ss : List ByteArray} (h : StrS b w v ss) (hn : ss.length ≤ 1048576) (hs : ∀ s ∈ ss, s.size ≤ 1048576) :
  Calls Tryz.prog 182 #[v] w (BoolPost w (labelsB ss)) := by
 have HC := Lib.hid (contains_str h hn hs)
 clear h
 generalize labelsB ss = lb at HC ⊢
 go_enter Tryz.func182, Tryz.ntmps182
 go_wp2_with fail
 refine HC.out.mono ?_
 rintro e w' ⟨rfl, hb⟩
 have HB := Lib.hid hb
 clear hb HC
 go_wp2_with fail
 go_ret
 exact ⟨by simp, HB.out⟩
set_option maxRecDepth 100000 in
theorem tree_soundMatcher (w : World) (m : PM) (hn : m.name.size ≤ 1048576) (hv : m.value.size ≤ 1048576) :
  Calls Tryz.prog 177 #[.agg #[.string m.name, .int .i64 m.op, .string m.value]] w (BoolPost w (matcherB m)) := by
 have HL : Hid (∀ W, Calls Tryz.prog 217 #[.string m.name] W fun e w' => e = .returned (.bool (isLabel m.name.data.toList)) ∧ W = w') := Lib.hid fun W => lex_isLabel m.name W (by unfold maxLen; omega)
 have HV : Hid (∀ W, Calls Tryz.prog 172 #[.string m.value] W fun e w' => e = .returned (.bool (valid m.value.data.toList)) ∧ Below W.heap.size W w') := Lib.hid fun W => utf_valid m.value W (by omega)
 have HD : Hid (matcherB m = (isLabel m.name.data.toList && decide (1 ≤ m.op) && decide (m.op ≤ 4) && valid m.value.data.toList)) := Lib.hid rfl
 generalize matcherB m = mb at HD ⊢
 generalize isLabel m.name.data.toList = bl at HL HD
 generalize valid m.value.data.toList = bv at HV HD
 generalize m.op = op at HD ⊢
 generalize m.name = nm at HL ⊢
 generalize m.value = vl at HV ⊢
 have hb1 : Below w.heap.size w (w.alloc (.cells #[.string nm, .int .i64 op, .string vl] 38)) := (Below.refl _ w).alloc (Nat.le_refl _) _
 have HB1 := Lib.hid hb1
 clear hb1
 go_enter Tryz.func177, Tryz.ntmps177
 go_wp2_with fail
 refine (HL.out _).mono ?_
 rintro e w' ⟨rfl, rfl⟩
 cases bl
 ·go_wp2_with fail
  go_ret
  exact ⟨by rw [HD.out]; rfl, HB1.out⟩
 ·by_cases h1 : 1 ≤ op
  ·by_cases h2 : op ≤ 4
   ·have HF : Hid (mb = bv) := Lib.hid (by rw [HD.out]; simp [h1, h2])
    go_wp2_with fail
    refine (HV.out _).mono ?_
    rintro e w3 ⟨rfl, hb3⟩
    have HB3 := Lib.hid (HB1.out.trans (hb3.mono HB1.out.size))
    clear hb3
    go_wp2_with fail
    go_ret
    exact ⟨by rw [HF.out]; rfl, HB3.out⟩
   ·have HF : Hid (mb = false) := Lib.hid (by rw [HD.out]; simp [h1, h2])
    have p2 : (op ≤ 4) = False := eq_false h2
    clear h2
    go_wp2_with fail
    go_ret
    exact ⟨by rw [HF.out]; rfl, HB1.out⟩
  ·have HF : Hid (mb = false) := Lib.hid (by rw [HD.out]; simp [h1])
   have p1 : (1 ≤ op) = False := eq_false h1
   clear h1
   go_wp2_with fail
   go_ret
   exact ⟨by rw [HF.out]; rfl, HB1.out⟩
theorem toList_size (s : ByteArray) : s.toList = s.data.toList := ByteArray.toList_eq s
theorem emptyB_list (x : ByteArray) : emptyB x = decide (x.toList = []) := by
 unfold emptyB
 rw [toList_size]
 cases x.data.toList <;> simp
theorem whenB_eq (off tim u : ByteArray) (hu : unsign off = u) : whenB off tim = ((decide (u.toList = []) || durB u) && (decide (tim.toList = []) || strB [115, 116, 97, 114, 116] tim || strB [101, 110, 100] tim || ((tokK tim : Nat) : Int) == 3)) := by
 unfold whenB
 rw [hu, emptyB_list, emptyB_list]
 congr 2
 rw [Bool.eq_iff_iff]; simp; omega
theorem unsign_no (s : ByteArray) (h : ¬ (1 < s.size ∧ (atB s.data.toList 0).toNat = 45)) : unsign s = s := by unfold unsign; rw [if_neg h]
theorem atB_zero (s : ByteArray) (h : 0 < s.size) : atB s.data.toList 0 = s[0] := by
 have h2 : 0 < s.data.toList.length := by rw [len_data]; exact h
 rw [← gl s 0 h2]
 unfold atB
 rw [List.getD_eq_getElem?_getD, List.getElem?_eq_getElem h2]; rfl
theorem isEmpty_dec (l : List UInt8) : l.isEmpty = decide (l = []) := by cases l <;> simp
set_option maxRecDepth 100000 in
set_option maxHeartbeats 1000000 in
theorem soundWhen_a {T : Nat → World → Prop} (hT : NumT (fun _ => True) T) (w : World) (off tim : ByteArray) (ho : off.size ≤ 1048576) (ht : tim.size ≤ 1048576) (hTw : T w.heap.size w) (h1 : 1 < off.size) (h2 : (off[0]).toNat = 45) :
  Calls Tryz.prog 174 #[.agg #[.string off, .string tim]] w (BoolPost w (whenB off tim)) := by
 have HO0 : ∀ x W, x.size ≤ 1048576 → Below w.heap.size w W → Calls Tryz.prog 178 #[.string x] W (BoolPost W (durB x)) := fun x W hx hb => tree_duration hT W x hx (hT.mono (hT.keep hTw hb) hb.size)
 have HK : Hid (∀ W, Below w.heap.size w W → Calls Tryz.prog 214 #[.string tim] W (IntPost W (tokK tim))) := Lib.hid fun W hb => tree_token hT W tim ht (hT.mono (hT.keep hTw hb) hb.size)
 have hb1 : Below w.heap.size w (w.alloc (.cells #[.string off, .string tim] 34)) := (Below.refl _ w).alloc (Nat.le_refl _) _
 have HB1 := Lib.hid hb1
 have hu : unsign off = off.extract 1 off.size := by unfold unsign; rw [if_pos ⟨h1, by rw [atB_zero off (by omega)]; exact h2⟩]
 have t1 : ((1 : Int) < (off.size : Int)) = True := eq_true (by omega)
 have t2 : ((off[0].toNat : Int) == 45) = true := by rw [beq_iff_eq]; omega
 have h3 : (off.extract 1 off.size).size ≤ 1048576 := by simp; omega
 have HW := Lib.hid (whenB_eq off tim _ hu)
 have H3 := Lib.hid h3
 have e1 : (tim.toList == [115, 116, 97, 114, 116]) = strB [115, 116, 97, 114, 116] tim := by rw [toList_size]; rfl
 have e2 : (tim.toList == [101, 110, 100]) = strB [101, 110, 100] tim := by rw [toList_size]; rfl
 have HO : Hid (∀ W, Below w.heap.size w W → Calls Tryz.prog 178 #[.string (off.extract 1 off.size)] W (BoolPost W (durB (off.extract 1 off.size)))) := Lib.hid fun W hb => HO0 _ W h3 hb
 clear hTw hb1 hu h3 HO0
 generalize durB (off.extract 1 off.size) = bd at HO HW
 have hue : ((off.extract 1 off.size).toList = [] ∧ (off.extract 1 off.size).toList.isEmpty = true) ∨ (((off.extract 1 off.size).toList = []) = False ∧ (off.extract 1 off.size).toList.isEmpty = false) := by cases (off.extract 1 off.size).toList <;> simp
 rcases hue with ⟨u1, u2⟩ | ⟨u1, u2⟩ <;> cases bd
 all_goals
  go_enter Tryz.func174, Tryz.ntmps174
  go_wp2_with (first | (go_at_call 178; (with_reducible refine (HO.out _ HB1.out).mono ?_); rintro e w2 ⟨rfl, hb2⟩; have c1 : w2.cell? ⟨w.heap.size, 1, none⟩ = some (.string tim) := (hb2.cell (p := ⟨w.heap.size, 1, none⟩) (by simp)).trans (by rw [World.cell?_alloc_at _ _ _ _ rfl]; rfl); have HB2 := Lib.hid (HB1.out.trans (hb2.mono HB1.out.size)); clear hb2) | (go_at_call 214; (with_reducible refine (HK.out _ (by first | exact HB2.out | exact HB1.out)).mono ?_); rintro e w3 ⟨rfl, hb3⟩; have HB3 := Lib.hid ((by first | exact HB2.out | exact HB1.out : Below w.heap.size w _).trans (hb3.mono (by first | exact HB2.out.size | exact HB1.out.size))); clear hb3))
  all_goals
   go_ret
   exact ⟨ret_bool (by rw [HW.out]; simp [isEmpty_dec, *]), by first | exact HB3.out | exact HB2.out | exact HB1.out⟩
set_option maxRecDepth 100000 in
set_option maxHeartbeats 1000000 in
theorem soundWhen_b {T : Nat → World → Prop} (hT : NumT (fun _ => True) T) (w : World) (off tim : ByteArray) (ho : off.size ≤ 1048576) (ht : tim.size ≤ 1048576) (hTw : T w.heap.size w) (h1 : 1 < off.size) (h2 : ¬ (off[0]).toNat = 45) :
  Calls Tryz.prog 174 #[.agg #[.string off, .string tim]] w (BoolPost w (whenB off tim)) := by
 have HO0 : ∀ x W, x.size ≤ 1048576 → Below w.heap.size w W → Calls Tryz.prog 178 #[.string x] W (BoolPost W (durB x)) := fun x W hx hb => tree_duration hT W x hx (hT.mono (hT.keep hTw hb) hb.size)
 have HK : Hid (∀ W, Below w.heap.size w W → Calls Tryz.prog 214 #[.string tim] W (IntPost W (tokK tim))) := Lib.hid fun W hb => tree_token hT W tim ht (hT.mono (hT.keep hTw hb) hb.size)
 have hb1 : Below w.heap.size w (w.alloc (.cells #[.string off, .string tim] 34)) := (Below.refl _ w).alloc (Nat.le_refl _) _
 have HB1 := Lib.hid hb1
 have hu : unsign off = off := unsign_no off fun h => h2 (by rw [← atB_zero off (by omega)]; exact h.2)
 have t1 : ((1 : Int) < (off.size : Int)) = True := eq_true (by omega)
 have t2 : ((off[0].toNat : Int) == 45) = false := by rw [beq_eq_false_iff_ne]; omega
 have h3 : off.size ≤ 1048576 := ho
 have HW := Lib.hid (whenB_eq off tim _ hu)
 have H3 := Lib.hid h3
 have e1 : (tim.toList == [115, 116, 97, 114, 116]) = strB [115, 116, 97, 114, 116] tim := by rw [toList_size]; rfl
 have e2 : (tim.toList == [101, 110, 100]) = strB [101, 110, 100] tim := by rw [toList_size]; rfl
 have HO : Hid (∀ W, Below w.heap.size w W → Calls Tryz.prog 178 #[.string off] W (BoolPost W (durB off))) := Lib.hid fun W hb => HO0 _ W h3 hb
 clear hTw hb1 hu h3 HO0
 generalize durB off = bd at HO HW
 have hue : (off.toList = [] ∧ off.toList.isEmpty = true) ∨ ((off.toList = []) = False ∧ off.toList.isEmpty = false) := by cases off.toList <;> simp
 rcases hue with ⟨u1, u2⟩ | ⟨u1, u2⟩ <;> cases bd
 all_goals
  go_enter Tryz.func174, Tryz.ntmps174
  go_wp2_with (first | (go_at_call 178; (with_reducible refine (HO.out _ HB1.out).mono ?_); rintro e w2 ⟨rfl, hb2⟩; have c1 : w2.cell? ⟨w.heap.size, 1, none⟩ = some (.string tim) := (hb2.cell (p := ⟨w.heap.size, 1, none⟩) (by simp)).trans (by rw [World.cell?_alloc_at _ _ _ _ rfl]; rfl); have HB2 := Lib.hid (HB1.out.trans (hb2.mono HB1.out.size)); clear hb2) | (go_at_call 214; (with_reducible refine (HK.out _ (by first | exact HB2.out | exact HB1.out)).mono ?_); rintro e w3 ⟨rfl, hb3⟩; have HB3 := Lib.hid ((by first | exact HB2.out | exact HB1.out : Below w.heap.size w _).trans (hb3.mono (by first | exact HB2.out.size | exact HB1.out.size))); clear hb3))
  all_goals
   go_ret
   exact ⟨ret_bool (by rw [HW.out]; simp [isEmpty_dec, *]), by first | exact HB3.out | exact HB2.out | exact HB1.out⟩
set_option maxRecDepth 100000 in
set_option maxHeartbeats 1000000 in
theorem soundWhen_c {T : Nat → World → Prop} (hT : NumT (fun _ => True) T) (w : World) (off tim : ByteArray) (ho : off.size ≤ 1048576) (ht : tim.size ≤ 1048576) (hTw : T w.heap.size w) (h1 : ¬ 1 < off.size) :
  Calls Tryz.prog 174 #[.agg #[.string off, .string tim]] w (BoolPost w (whenB off tim)) := by
 have HO0 : ∀ x W, x.size ≤ 1048576 → Below w.heap.size w W → Calls Tryz.prog 178 #[.string x] W (BoolPost W (durB x)) := fun x W hx hb => tree_duration hT W x hx (hT.mono (hT.keep hTw hb) hb.size)
 have HK : Hid (∀ W, Below w.heap.size w W → Calls Tryz.prog 214 #[.string tim] W (IntPost W (tokK tim))) := Lib.hid fun W hb => tree_token hT W tim ht (hT.mono (hT.keep hTw hb) hb.size)
 have hb1 : Below w.heap.size w (w.alloc (.cells #[.string off, .string tim] 34)) := (Below.refl _ w).alloc (Nat.le_refl _) _
 have HB1 := Lib.hid hb1
 have hu : unsign off = off := unsign_no off fun h => h1 h.1
 have t1 : ((1 : Int) < (off.size : Int)) = False := eq_false (by omega)
 have h3 : off.size ≤ 1048576 := ho
 have HW := Lib.hid (whenB_eq off tim _ hu)
 have H3 := Lib.hid h3
 have e1 : (tim.toList == [115, 116, 97, 114, 116]) = strB [115, 116, 97, 114, 116] tim := by rw [toList_size]; rfl
 have e2 : (tim.toList == [101, 110, 100]) = strB [101, 110, 100] tim := by rw [toList_size]; rfl
 have HO : Hid (∀ W, Below w.heap.size w W → Calls Tryz.prog 178 #[.string off] W (BoolPost W (durB off))) := Lib.hid fun W hb => HO0 _ W h3 hb
 clear hTw hb1 hu h3 HO0
 generalize durB off = bd at HO HW
 have hue : (off.toList = [] ∧ off.toList.isEmpty = true) ∨ ((off.toList = []) = False ∧ off.toList.isEmpty = false) := by cases off.toList <;> simp
 rcases hue with ⟨u1, u2⟩ | ⟨u1, u2⟩ <;> cases bd
 all_goals
  go_enter Tryz.func174, Tryz.ntmps174
  go_wp2_with (first | (go_at_call 178; (with_reducible refine (HO.out _ HB1.out).mono ?_); rintro e w2 ⟨rfl, hb2⟩; have c1 : w2.cell? ⟨w.heap.size, 1, none⟩ = some (.string tim) := (hb2.cell (p := ⟨w.heap.size, 1, none⟩) (by simp)).trans (by rw [World.cell?_alloc_at _ _ _ _ rfl]; rfl); have HB2 := Lib.hid (HB1.out.trans (hb2.mono HB1.out.size)); clear hb2) | (go_at_call 214; (with_reducible refine (HK.out _ (by first | exact HB2.out | exact HB1.out)).mono ?_); rintro e w3 ⟨rfl, hb3⟩; have HB3 := Lib.hid ((by first | exact HB2.out | exact HB1.out : Below w.heap.size w _).trans (hb3.mono (by first | exact HB2.out.size | exact HB1.out.size))); clear hb3))
  all_goals
   go_ret
   exact ⟨ret_bool (by rw [HW.out]; simp [isEmpty_dec, *]), by first | exact HB3.out | exact HB2.out | exact HB1.out⟩
theorem tree_soundWhen {T : Nat → World → Prop} (hT : NumT (fun _ => True) T) (w : World) (off tim : ByteArray) (ho : off.size ≤ 1048576) (ht : tim.size ≤ 1048576) (hTw : T w.heap.size w) :
  Calls Tryz.prog 174 #[.agg #[.string off, .string tim]] w (BoolPost w (whenB off tim)) := by
 by_cases h1 : 1 < off.size
 ·by_cases h2 : (off[0]).toNat = 45
  ·exact soundWhen_a hT w off tim ho ht hTw h1 h2
  ·exact soundWhen_b hT w off tim ho ht hTw h1 h2
 ·exact soundWhen_c hT w off tim ho ht hTw h1
set_option maxRecDepth 100000 in
theorem tree_kidsFit (w : World) (k n : Int) : Calls Tryz.prog 169 #[.int .i64 k, .int .i64 n] w fun e w' => e = .returned (.bool (kidsB k n)) ∧ w = w' := by
 go_enter Tryz.func169, Tryz.ntmps169
 go_wp2_with fail
 all_goals
  go_ret
  exact ⟨ret_bool (by unfold kidsB; rw [Bool.eq_iff_iff]; simp_all <;> omega), rfl⟩
set_option maxRecDepth 100000 in
set_option maxHeartbeats 1000000 in
theorem tree_binaryOp (w : World) (s : ByteArray) : Calls Tryz.prog 179 #[.string s] w fun e w' => e = .returned (.bool (binOps.contains s.data.toList)) ∧ w = w' := by
 have HS := Lib.hid (toList_size s)
 go_enter Tryz.func179, Tryz.ntmps179
 go_wp2_with fail
 all_goals
  go_ret
  exact ⟨ret_bool (by rw [← HS.out]; unfold binOps; simp_all), rfl⟩
set_option maxRecDepth 100000 in
set_option maxHeartbeats 1000000 in
theorem tree_aggregation (w : World) (s : ByteArray) : Calls Tryz.prog 181 #[.string s] w fun e w' => e = .returned (.bool (aggOps.contains s.data.toList)) ∧ w = w' := by
 have HS := Lib.hid (toList_size s)
 go_enter Tryz.func181, Tryz.ntmps181
 go_wp2_with fail
 all_goals
  go_ret
  exact ⟨ret_bool (by rw [← HS.out]; unfold aggOps; simp_all), rfl⟩
def matchB (gi on : Bool) (ls : List ByteArray) (card : Int) (inc : List ByteArray) : Bool :=
 if gi = false then !on && ls.isEmpty && decide (card = 0) && inc.isEmpty
 else decide (0 ≤ card) && decide (card ≤ 2) && !(decide (card = 0) && !inc.isEmpty) && labelsB ls && labelsB inc
theorem len_isEmpty {α : Type} (l : List α) : l.isEmpty = decide (l.length = 0) := by cases l <;> simp
set_option maxRecDepth 100000 in
set_option maxHeartbeats 1000000 in
theorem tree_soundMatching {b : Nat} {w : World} {al ai : Option Addr} {nl cl ni ci : Nat} {ls inc : List ByteArray} (gi on : Bool) (card : Int) (ho : StrS b w (.slice al nl cl) ls) (hi : StrS b w (.slice ai ni ci) inc) (hn : ls.length ≤ 1048576) (hn2 : inc.length ≤ 1048576) (hs : ∀ s ∈ ls, s.size ≤ 1048576) (hs2 : ∀ s ∈ inc, s.size ≤ 1048576) :
  Calls Tryz.prog 180 #[.agg #[.bool gi, .bool on, .slice al nl cl, .int .i64 card, .slice ai ni ci]] w (BoolPost w (matchB gi on ls card inc)) := by
 obtain rfl : nl = ls.length := by obtain ⟨_, _, h, _⟩ := ho; injection h
 obtain rfl : ni = inc.length := by obtain ⟨_, _, h, _⟩ := hi; injection h
 have HO : Hid (∀ W, Below w.heap.size w W → Calls Tryz.prog 182 #[.slice al ls.length cl] W (BoolPost W (labelsB ls))) := Lib.hid fun W hb => tree_labelNames (ho.below hb) hn hs
 have HI : Hid (∀ W, Below w.heap.size w W → Calls Tryz.prog 182 #[.slice ai inc.length ci] W (BoolPost W (labelsB inc))) := Lib.hid fun W hb => tree_labelNames (hi.below hb) hn2 hs2
 have HB1 : Hid (∀ cs, Below w.heap.size w (w.alloc (.cells cs 56))) := Lib.hid fun cs => (Below.refl _ w).alloc (Nat.le_refl _) _
 have HD : Hid (matchB gi on ls card inc = if gi = false then !on && decide (ls.length = 0) && decide (card = 0) && decide (inc.length = 0) else decide (0 ≤ card) && decide (card ≤ 2) && !(decide (card = 0) && !decide (inc.length = 0)) && labelsB ls && labelsB inc) := Lib.hid (by unfold matchB; rw [len_isEmpty, len_isEmpty])
 clear ho hi
 generalize matchB gi on ls card inc = mb at HD ⊢
 generalize labelsB ls = bl at HO HD
 generalize labelsB inc = bi at HI HD
 generalize ls.length = nl at *
 generalize inc.length = ni at *
 cases gi
 ·go_enter Tryz.func180, Tryz.ntmps180
  go_wp2_with fail
  all_goals
   go_ret
   exact ⟨ret_bool (by rw [HD.out, Bool.eq_iff_iff]; simp_all <;> omega), HB1.out _⟩
 ·cases bl
  all_goals
   go_enter Tryz.func180, Tryz.ntmps180
   go_wp2_with (first | (go_at_call 182; (with_reducible refine (HO.out _ (HB1.out _)).mono ?_); rintro e w2 ⟨rfl, hb2⟩; have c4 : w2.cell? ⟨w.heap.size, 4, none⟩ = some (.slice ai ni ci) := (hb2.cell (p := ⟨w.heap.size, 4, none⟩) (by simp)).trans (by rw [World.cell?_alloc_at _ _ _ _ rfl]; rfl); have HB2 := Lib.hid ((HB1.out _).trans (hb2.mono (HB1.out _).size)); clear hb2) | (go_at_call 182; (with_reducible refine (HI.out _ HB2.out).mono ?_); rintro e w3 ⟨rfl, hb3⟩; have HB3 := Lib.hid (HB2.out.trans (hb3.mono HB2.out.size)); clear hb3))
   all_goals
    go_ret
    exact ⟨ret_bool (by rw [HD.out, Bool.eq_iff_iff]; simp_all <;> omega), by first | exact HB3.out | exact HB2.out | exact HB1.out _⟩
set_option maxRecDepth 100000 in
theorem matcher_not (w : World) (m : PM) (hn : m.name.size ≤ 1048576) (hv : m.value.size ≤ 1048576) :
  Calls Tryz.prog 176 #[.agg #[.string m.name, .int .i64 m.op, .string m.value]] w (BoolPost w (!matcherB m)) := by
 have HC : Hid (∀ W, Calls Tryz.prog 177 #[.agg #[.string m.name, .int .i64 m.op, .string m.value]] W (BoolPost W (matcherB m))) := Lib.hid fun W => tree_soundMatcher W m hn hv
 have HB1 : Hid (∀ X, Below w.heap.size w (w.alloc X)) := Lib.hid fun X => (Below.refl _ w).alloc (Nat.le_refl _) X
 generalize matcherB m = b at HC ⊢
 go_enter Tryz.func176, Tryz.ntmps176
 go_wp2_with fail
 refine (HC.out _).mono ?_
 rintro e w2 ⟨rfl, hb⟩
 have HB2 := Lib.hid ((HB1.out _).trans (hb.mono (HB1.out _).size))
 clear hb
 go_wp2_with fail
 go_ret
 exact ⟨rfl, HB2.out⟩
set_option maxRecDepth 100000 in
theorem index_none (a : Option Addr) (c : Nat) (fv : Value) (w : World) : Calls Tryz.prog 216 #[.slice a 0 c, fv] w fun e w' => e = .returned (.int .i64 (-1)) ∧ w = w' := by
 go_enter Tryz.func216, Tryz.ntmps216
 go_wp2_with fail
 go_loopw [8] (fun t wr => t = .int .i64 0 ∧ wr = w) (fun _ _ => 0)
 case atStart => exact ⟨rfl, rfl⟩
 case round =>
  obtain ⟨rfl, rfl⟩ := hrel
  go_wp2_with fail
  go_ret
  exact ⟨rfl, rfl⟩
set_option maxRecDepth 100000 in
theorem contains_none (a : Option Addr) (c : Nat) (fv : Value) (w : World) : Calls Tryz.prog 175 #[.slice a 0 c, fv] w (BoolPost w false) := by
 go_enter Tryz.func175, Tryz.ntmps175
 go_wp2_with fail
 refine (index_none a c fv _).mono ?_
 rintro e w' ⟨rfl, rfl⟩
 go_wp2_with fail
 go_ret
 exact ⟨rfl, Below.refl _ _⟩
def smC (x : SmM) : List Value := [.string x.m.name, .int .i64 x.m.op, .string x.m.value]
theorem contains_mat {b : Nat} {w : World} {v : Value} {ms : List PM} (h : MatS b w v ms) (hn : ms.length ≤ 1048576) (hs : ∀ m ∈ ms, m.name.size ≤ 1048576 ∧ m.value.size ≤ 1048576) :
  Calls Tryz.prog 175 #[v, .func (.func 176) #[] #[]] w (BoolPost w (!ms.all matcherB)) := by
 obtain ⟨ao, c, rfl, hc⟩ := h
 obtain ⟨zs, rfl⟩ := attachM ms hs
 have hlab : (!(zs.map (·.m)).all matcherB) = zs.any fun x => !matcherB x.m := by
  rw [List.all_map, List.any_eq_not_all_not]; simp [Function.comp_def]
 rw [hlab]
 cases ao with
 |none =>
  have h0 : zs = [] := by
   cases zs with
   |nil => rfl
   |cons m ms => obtain ⟨g, o, h, _⟩ := hc 0 (by simp); cases h
  subst h0
  exact contains_none none c _ w
 |some a =>
  rcases Nat.eq_zero_or_pos zs.length with h0 | h0
  ·have h1 : zs = [] := List.length_eq_zero_iff.1 h0
   subst h1
   exact contains_none (some a) c _ w
  ·obtain ⟨g, o, he, _, hlt, _⟩ := hc 0 (by simpa using h0)
   obtain rfl : a = ⟨g, o, none⟩ := Option.some.inj he
   rw [List.length_map] at hn ⊢
   refine (AnyQ.slices_ContainsFunc (α := SmM) Tryz.containsM 3 Tryz.isAgg38 Tryz.sizeOf38 smC (fun _ => rfl) (fun x => !matcherB x.m) 176 #[] (enters_of Tryz.func176 (by kernel_rfl) rfl) g o zs.length c zs w ?_ (Nat.le_refl _) (by omega) hlt ?_).mono ?_
   ·intro W x hb
    exact (matcher_not W x.m x.h.1 x.h.2).mono fun _ _ h => ⟨h.1, hb.trans (h.2.mono hb.size)⟩
   ·intro j hj i v hi
    obtain ⟨g', o', he, _, _, x, y, z⟩ := hc j (by simpa using hj)
    cases he
    rw [getElem!_pos zs j hj] at hi
    rw [List.getElem_map] at x y z
    match i, hi with
    | 0, hi => injection hi with hi; subst hi; exact x
    | 1, hi => injection hi with hi; subst hi; exact y
    | 2, hi => injection hi with hi; subst hi; exact z
   ·rintro e w' ⟨rfl, hb⟩
    exact ⟨by rw [List.take_length], hb⟩
end Go.Proofs.YtibcjfjacielbaaGreatDoor
set_option linter.unusedVariables false
set_option linter.unusedSimpArgs false
namespace Go.Proofs.YtibcjfjacielbaaGreatDoor
theorem depthsOf_up : ∀ (rs : List PR) (ds : List Nat), depthsOf (ds.map (· + 1)) rs = (depthsOf ds rs).map (· + 1)
 | [], ds => by rw [depthsOf_nil, depthsOf_nil]; rfl
 |r :: rs, [] => rfl
 |r :: rs, d :: ds => by
  rw [List.map_cons, depthsOf, depthsOf, List.map_cons, ← depthsOf_up rs, List.map_append, List.map_replicate]
theorem maxL_up : ∀ l : List Nat, l ≠ [] → maxL (l.map (· + 1)) = maxL l + 1
 | [], h => absurd rfl h
 | [a], _ => by simp [maxL]
 |a :: b :: l, _ => by
  rw [List.map_cons, maxL_cons, maxL_up (b :: l) (by simp), maxL_cons a]
  omega
theorem depths_ne {rs : List PR} (h : trees 1 rs = true) (d : Nat) : depthsOf [d] rs ≠ [] := by
 obtain ⟨r, t, rfl, _⟩ := trees_pos h
 simp [depthsOf]
theorem maxL_two {rs : List PR} (h : trees 1 rs = true) : maxL (depthsOf [2] rs) = deepOf rs + 1 := by
 have h1 := depthsOf_up rs [1]
 rw [List.map_cons, List.map_nil] at h1
 rw [h1, maxL_up _ (depths_ne h 1)]; rfl
theorem deepOf_pos {rs : List PR} (h : trees 1 rs = true) : 1 ≤ deepOf rs := by
 obtain ⟨r, t, rfl, _⟩ := trees_pos h
 unfold deepOf
 rw [depthsOf, maxL_cons]; omega
theorem deepOf_one {r : PR} {a : List PR} (hr : nk r = 1) (h : trees 1 a = true) : deepOf (r :: a) = deepOf a + 1 := by
 have := deepOf_pos h
 have h2 := maxL_two h
 unfold deepOf at this ⊢
 rw [depthsOf, hr, maxL_cons]
 show max 1 (maxL (depthsOf [2] a)) = _
 rw [h2]; unfold deepOf; omega
theorem deepOf_two {r : PR} {a b : List PR} (hr : nk r = 2) (h : trees 1 a = true) (k : trees 1 b = true) : deepOf (r :: (a ++ b)) = max (deepOf a) (deepOf b) + 1 := by
 have := deepOf_pos h
 have h2 := maxL_two h
 have h3 := maxL_two k
 show maxL (depthsOf [1] (r :: (a ++ b))) = _
 rw [depthsOf, hr, maxL_cons]
 show max 1 (maxL (depthsOf ([2] ++ [2]) (a ++ b))) = _
 rw [depthsOf_app a b [2] [2] h, maxL_app, h2, h3]; omega
theorem rangesB_join : ∀ (a b : List PR), rangesB a = true → rangesB b = true → rangesB (a ++ b) = true
  | [], b, _, h => h
  | [r], b, h, k => by
    rw [rangesB, Bool.and_eq_true] at h
    rw [List.cons_append, List.nil_append, rangesB, k, Bool.and_true]
    have h1 := h.1
    cases hd : decide (r.kind = 4) with
    | false => rfl
    | true => rw [hd] at h1; simp [nextSel] at h1
  | r :: q :: a, b, h, k => by
    rw [rangesB, Bool.and_eq_true] at h
    rw [List.cons_append, rangesB, rangesB_join (q :: a) b h.2 k, Bool.and_true]
    exact h.1
theorem shape_parts {rs : List PR} (h : shapeB rs = true) : trees 1 rs = true ∧ rs.all soundRow = true ∧ rangesB rs = true := by
 unfold shapeB at h
 simp only [Bool.and_eq_true] at h
 exact ⟨h.1.1, h.1.2, h.2⟩
theorem shape_mk {rs : List PR} (h1 : trees 1 rs = true) (h2 : rs.all soundRow = true) (h3 : rangesB rs = true) : shapeB rs = true := by
 unfold shapeB
 rw [h1, h2, h3]; rfl
theorem build_ok {rs : List PR} : buildErr rs = 0 ↔ shapeB rs = true ∧ deepOf rs ≤ 128 := by
 unfold buildErr
 by_cases h : shapeB rs = true
 ·rw [if_pos h]
  by_cases k : 128 < deepOf rs
  ·rw [if_pos k]; simp [h]; omega
  ·rw [if_neg k]; simp [h]; omega
 ·rw [if_neg h]; simp [h]
theorem build_deep {rs : List PR} (h : shapeB rs = true) (k : 128 < deepOf rs) : buildErr rs = 3 := by
 unfold buildErr
 rw [if_pos h, if_pos k]
theorem shape_one {r : PR} {a : List PR} (hs : soundRow r = true) (hk : r.kind ≠ 4) (hr : nk r = 1) (h : shapeB a = true) : shapeB (r :: a) = true := by
 obtain ⟨h1, h2, h3⟩ := shape_parts h
 refine shape_mk ?_ ?_ ?_
 ·show trees (nk r + 0) a = true
  rw [hr]; exact h1
 ·rw [List.all_cons, hs, h2]; rfl
 ·rw [rangesB, h3, Bool.and_true, decide_eq_false hk]; rfl
theorem shape_two {r : PR} {a b : List PR} (hs : soundRow r = true) (hk : r.kind ≠ 4) (hr : nk r = 2) (h : shapeB a = true) (k : shapeB b = true) : shapeB (r :: (a ++ b)) = true := by
 obtain ⟨h1, h2, h3⟩ := shape_parts h
 obtain ⟨k1, k2, k3⟩ := shape_parts k
 refine shape_mk ?_ ?_ ?_
 ·show trees (nk r + 0) (a ++ b) = true
  rw [hr]; exact trees_join a b 1 1 h1 k1
 ·rw [List.all_cons, hs, List.all_append, h2, k2]; rfl
 ·rw [rangesB, rangesB_join a b h3 k3, Bool.and_true, decide_eq_false hk]; rfl
theorem selsOf_app (a b : List PR) : selsOf (a ++ b) = selsOf a ++ selsOf b := by simp [selsOf]
theorem selsOf_skip {r : PR} (hk : r.kind ≠ 3) (a : List PR) : selsOf (r :: a) = selsOf a := by
 unfold selsOf
 rw [List.filter_cons_of_neg (by simpa using hk)]
def signR : PR := ⟨6, 1, ⟨#[45]⟩, ⟨#[]⟩, [], ⟨#[]⟩, ⟨#[]⟩, ⟨#[]⟩, ⟨#[]⟩, false, false, false, [], 0, [], false, []⟩
def overR : PR := ⟨7, 2, ⟨#[117, 110, 108, 101, 115, 115]⟩, ⟨#[]⟩, [], ⟨#[]⟩, ⟨#[]⟩, ⟨#[]⟩, ⟨#[]⟩, false, false, false, [], 0, [], false, []⟩
theorem sign_sound : soundRow signR = true := by decide +kernel
theorem over_sound : soundRow overR = true := by decide +kernel
def small0 : PR := ⟨7, 2, ⟨#[43]⟩, ⟨#[]⟩, [], ⟨#[]⟩, ⟨#[]⟩, ⟨#[]⟩, ⟨#[]⟩, false, false, false, [], 0, [], false, []⟩
def small1 : PR := ⟨1, 0, ⟨#[]⟩, ⟨#[49]⟩, [], ⟨#[]⟩, ⟨#[]⟩, ⟨#[]⟩, ⟨#[]⟩, false, false, false, [], 0, [], false, []⟩
def small2 : PR := ⟨3, 0, ⟨#[]⟩, ⟨#[117, 112]⟩, [], ⟨#[]⟩, ⟨#[]⟩, ⟨#[]⟩, ⟨#[]⟩, false, false, false, [], 0, [], false, []⟩
def smallL : List PR := [small0, small1, small2]
theorem small_build : buildErr smallL = 0 := by decide +kernel
theorem small_deep : deepOf smallL = 2 := by decide +kernel
end Go.Proofs.YtibcjfjacielbaaGreatDoor
