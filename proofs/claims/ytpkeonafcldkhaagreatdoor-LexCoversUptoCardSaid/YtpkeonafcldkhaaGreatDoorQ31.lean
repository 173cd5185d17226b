import Derived.Test.YtpkeonafcldkhaaGreatDoorQ23
import Derived.Test.YtpkeonafcldkhaaGreatDoorQ29
/- Part of the proof of YtpkeonafcldkhaaGreatDoorCardS CardV: RbL RbM. -/
set_option linter.unusedVariables false
set_option linter.unusedSimpArgs false
namespace Go.Proofs.YtpkeonafcldkhaaGreatDoor
open Go.RowKit
structure NumI (w wr : World) (v : Value) (i N : Nat) (es : List Nat) : Prop where
 r : BigR wr v es
 ok : BigOk es
 norm : Norm es
 val : bigV es = N
 len : es.length ≤ i
 below : Below w.heap.size w wr
theorem NumI.nil (w : World) : NumI w w (.slice none 0 0) 0 0 [] :=
 ⟨⟨none, 0, rfl, fun j h => by simp at h⟩, (fun d h => by cases h), (fun h => by simp at h), rfl, Nat.le_refl _, Below.refl _ _⟩
theorem num_grow {es : List Nat} {i m c : Nat} (hok : BigOk es) (hl : es.length ≤ i) (hm : m < 4294967296) (hc : c < 4294967296) : bigV es * m + c < 4294967296 ^ (i + 1) := by
 have h1 := bigV_lt es hok
 have h2 : 4294967296 ^ es.length ≤ 4294967296 ^ i := Nat.pow_le_pow_right (by decide) hl
 rw [Nat.pow_succ]
 generalize 4294967296 ^ i = B at *
 have h3 : bigV es * m ≤ (B - 1) * 4294967295 := Nat.mul_le_mul (by omega) (by omega)
 have h4 : (B - 1) * 4294967295 = B * 4294967295 - 4294967295 := by rw [Nat.sub_mul, Nat.one_mul]
 omega
theorem NumI.times {w wr w2 : World} {v : Value} {i N m c M : Nat} {es : List Nat} (h : NumI w wr v i N es) (hm : m < 4294967296) (hc : c < 4294967296) (hM : M = N * m + c) {e : Ending} (hp : BigPost wr (bigV es * m + c) e w2) :
  ∃ v2 fs, e = .returned v2 ∧ NumI w w2 v2 (i + 1) M fs := by
 obtain ⟨⟨v2, fs, rfl, f1, f2, f3, f4⟩, hb⟩ := hp
 refine ⟨v2, fs, rfl, f1.r, f4, f3, by rw [f2, h.val, hM], norm_len f3 ?_, h.below.trans (hb.mono h.below.size)⟩
 rw [f2]
 exact num_grow h.ok h.len hm hc
theorem NumI.more {w wr : World} {v : Value} {i j N : Nat} {es : List Nat} (h : NumI w wr v i N es) (hj : i ≤ j) : NumI w wr v j N es := ⟨h.r, h.ok, h.norm, h.val, Nat.le_trans h.len hj, h.below⟩
def NumPost (w : World) (n N : Nat) (X : Int) (e : Ending) (w' : World) : Prop :=
 ∃ v es, e = .returned (.tuple #[v, .int .i64 X]) ∧ NumI w w' v n N es
set_option maxRecDepth 100000 in
set_option maxHeartbeats 2000000 in
theorem r02_number_hex (s : ByteArray) (w : World) (hs : s.size ≤ 512) (h2 : 1 < s.size) (hX : isX s[1] = true) (hd : ∀ (i : Nat) (h : i < s.size), 2 ≤ i → hexd s[i] = true) :
  Calls Tryz.prog 61 #[.string s] w (NumPost w s.size (hexNK s.data.toList s.size) 0) := by
 have HD := Lib.hid hd
 have HX0 := Lib.hid (hexNK_two s.data.toList)
 have hx : s[1].toNat = 120 ∨ s[1].toNat = 88 := by simpa [isX] using hX
 clear hd hX
 have hI0 := Lib.hid (NumI.nil w)
 rcases hx with hx | hx
 all_goals
  have p1 : ((s[1].toNat : Int) == 120) = decide (s[1].toNat = 120) := by rw [Bool.eq_iff_iff]; simp; omega
  have p2 : ((s[1].toNat : Int) == 88) = decide (s[1].toNat = 88) := by rw [Bool.eq_iff_iff]; simp; omega
  simp only [hx, Nat.reduceEqDiff, decide_true, decide_false] at p1 p2
  go_enter Tryz.func61, Tryz.ntmps61
  go_wp2_with fail
  go_loopw [4, 5] (fun t4 t5 wr => ∃ (i : Nat) (es : List Nat), i ≤ s.size ∧ 2 ≤ i ∧ t5 = .int .i64 (i : Int) ∧ Hid (NumI w wr t4 i (hexNK s.data.toList i) es)) (fun _ t5 _ => s.size - (intOf t5).toNat)
  case atStart => exact ⟨2, [], by omega, by omega, rfl, Lib.hid (by rw [HX0.out]; exact hI0.out.more (by omega))⟩
  case round =>
   obtain ⟨i, es, hi, hi2, rfl, hI⟩ := hrel
   by_cases hlt : i < s.size
   ·have hh := HD.out i hlt hi2
    obtain ⟨x, hx'⟩ : ∃ x, x = hexV s[i] := ⟨_, rfl⟩
    have hv := (hexI_all s[i]).2.2.2.2 hh
    rw [hv.2.2, ← hx'] at hv
    have bx : x ≤ 15 := by omega
    have hv' : hexI s[i] = (x : Int) := by rw [(hexI_all s[i]).2.2.2.2 hh |>.2.2, hx']
    have HK := Lib.hid (show hexNK s.data.toList (i + 1) = hexNK s.data.toList i * 16 + x by rw [hexNK_succ hi2 (by rw [len_data]; exact hlt), atB_lt hlt, hx'])
    have q1 : IntKind.u32.wrap (x : Int) = (x : Int) := by rw [IntKind.wrap_u32]; omega
    have ht := Lib.hid (r02_times wr _ es 16 x hI.out.r hI.out.ok (by have := hI.out.len; omega) (by decide) (by omega))
    clear hv hx' hh
    go_wp2_with (go_at_call 82; refine (r02_hex _ _).mono ?_; rintro e w' ⟨rfl, rfl⟩; rw [hv'])
    have ht2 : Calls Tryz.prog 81 #[_, .int .u32 16, .int .u32 (x : Int)] wr (BigPost wr (bigV es * 16 + x)) := ht.out
    refine ht2.mono ?_
    intro e w2 hp
    obtain ⟨v2, fs, rfl, hN⟩ := hI.out.times (by decide) (by omega) HK.out hp
    have HN := Lib.hid hN
    clear hp hN ht ht2
    go_wp2_with fail
    exact ⟨⟨i + 1, fs, hlt, by omega, by go_num, HN⟩, meas_j hlt⟩
   ·have he : i = s.size := by omega
    go_wp2_with fail
    subst he
    go_ret2
    exact ⟨_, es, rfl, hI.out⟩
def rStep (e : Nat) (c : UInt8) : Nat := if e < 100000 then e * 10 + (c.toNat - 48) else e
def rAt (l : List UInt8) (j k : Nat) : Nat := ((l.drop j).take (k - j)).foldl rStep 0
theorem rAt_start (l : List UInt8) (j : Nat) : rAt l j j = 0 := by simp [rAt]
theorem rAt_succ {l : List UInt8} {j k : Nat} (hj : j ≤ k) (h : k < l.length) : rAt l j (k + 1) = rStep (rAt l j k) (atB l k) := by
 have hk : k - j < (l.drop j).length := by simp; omega
 have : (l.drop j)[k - j] = atB l k := by
  rw [List.getElem_drop, atB, List.getD_eq_getElem?_getD, List.getElem?_eq_getElem (by omega)]
  simp [show j + (k - j) = k by omega]
 rw [rAt, show k + 1 - j = k - j + 1 by omega, List.take_succ_eq_append_getElem hk, List.foldl_append, this]
 rfl
theorem rAt_eAt {l : List UInt8} {j : Nat} : ∀ k, j ≤ k → k ≤ l.length → (∀ i, j ≤ i → i < k → digit (atB l i) = true) → (rAt l j k = eAt l j k ∨ (10000 ≤ rAt l j k ∧ 10000 ≤ eAt l j k)) ∧ rAt l j k ≤ 1000009 := by
  intro k hj
  induction k with
  | zero => intro _ _; have : j = 0 := by omega
            subst this; simp [rAt_start, eAt_start]
  | succ k ih =>
    intro hk hd
    by_cases he : j = k + 1
    · subst he; simp [rAt_start, eAt_start]
    · obtain ⟨h1, h2⟩ := ih (by omega) (by omega) (fun i a b => hd i a (by omega))
      have hf := digit_fits (hd k (by omega) (by omega))
      rw [rAt_succ (by omega) (by omega), eAt_succ (by omega) (by omega)]
      unfold rStep eStep
      constructor
      · split <;> split <;> omega
      · split <;> omega
def rX (l : List UInt8) : Int := (if mEnd l < l.length then (if eSgn l = true then -(rAt l (eDig l) l.length : Int) else (rAt l (eDig l) l.length : Int)) else 0) - ((smAt l (mEnd l)).behind : Int)
theorem behind_le {l : List UInt8} : ∀ k, k ≤ l.length → (smAt l k).behind ≤ k
 | 0, _ => Nat.le_refl _
 |k + 1, hk => by
  have ih := behind_le (l := l) k (by omega)
  rw [ovSmAt_succ (by omega)]
  unfold smStep
  split
  ·show (smAt l k).behind ≤ k + 1; omega
  ·simp only
   split <;> omega
set_option maxRecDepth 100000 in
set_option maxHeartbeats 4000000 in
theorem r02_number_dec (s : ByteArray) (w : World) (hs : s.size ≤ 512) (hX : ∀ h : 1 < s.size, isX s[1] = false) (m : Nat) (hm : mEnd s.data.toList = m) (hok : MantOk s.data.toList m) (hE : m = s.size ∨ m < s.size ∧ ExpOk s.data.toList m (eDig s.data.toList) (eSgn s.data.toList)) :
  Calls Tryz.prog 61 #[.string s] w (NumPost w s.size (smAt s.data.toList m).n (rX s.data.toList)) := by
 have hms : m ≤ s.size := by have := hok.1; rwa [len_data] at this
 have HOK := Lib.hid hok
 have HE := Lib.hid hE
 have HM := Lib.hid hm
 have hI0 := Lib.hid (NumI.nil w)
 have hsm0 : smAt s.data.toList 0 = ⟨0, 0, false⟩ := rfl
 have HS0 := Lib.hid hsm0
 have HMN : Hid (∀ (i : Nat) (h : i < s.size), i < m → isE s[i] = false) := Lib.hid (fun i h hi => by
  rcases hok.2 i hi with h1 | h1
  ·rw [← atB_lt h]; exact digit_notE (.inl h1)
  ·rw [← atB_lt h]; exact digit_notE (.inr h1.1))
 have hx : ¬ 1 < s.size ∨ ∃ h : 1 < s.size, ((s[1].toNat : Int) == 120) = false ∧ ((s[1].toNat : Int) == 88) = false := by
  by_cases h1 : 1 < s.size
  ·refine .inr ⟨h1, ?_⟩
   have := hX h1
   simp [isX] at this
   constructor <;> simp <;> omega
  ·exact .inl h1
 clear hok hE hm hX hsm0
 rcases hx with h1 | ⟨h1, p1, p2⟩
 all_goals
  go_enter Tryz.func61, Tryz.ntmps61
  go_wp2_with fail
  go_loopw [4, 6, 7, 8] (fun t4 t6 t7 t8 wr => ∃ (i : Nat) (es : List Nat), i ≤ m ∧ t6 = .int .i64 (i : Int) ∧ Hid (NumI w wr t4 i (smAt s.data.toList i).n es) ∧ t7 = .int .i64 ((smAt s.data.toList i).behind : Int) ∧ t8 = .bool (smAt s.data.toList i).point) (fun _ t6 _ _ _ => s.size - (intOf t6).toNat)
  case atStart => exact ⟨0, [], Nat.zero_le _, rfl, by rw [HS0.out]; exact hI0, by rw [HS0.out]; rfl, by rw [HS0.out]⟩
  case round =>
   obtain ⟨i, es, hi, rfl, hI, rfl, rfl⟩ := hrel
   by_cases hlt : i < m
   ·have hls : i < s.size := by omega
    have hne := HMN.out i hls hlt
    have hne' : ¬ s[i].toNat = 101 ∧ ¬ s[i].toNat = 69 := by simpa [isE] using hne
    have e1 : ((s[i].toNat : Int) != 101) = true := by simp; omega
    have e2 : ((s[i].toNat : Int) != 69) = true := by simp; omega
    have HST := Lib.hid (show smAt s.data.toList (i + 1) = smStep (smAt s.data.toList i) s[i] by rw [ovSmAt_succ (by rw [len_data]; exact hls), atB_lt hls])
    have HC := Lib.hid (show digit s[i] = true ∨ s[i].toNat = 46 by
     rcases HOK.out.2 i hlt with h | h
     ·rw [atB_lt hls] at h; exact .inl h
     ·rw [atB_lt hls] at h; exact .inr h.1)
    clear hne hne'
    by_cases hdot : s[i].toNat = 46
    ·have e3 : ((s[i].toNat : Int) == 46) = true := by simp; omega
     have HST2 : Hid (smAt s.data.toList (i + 1) = ⟨(smAt s.data.toList i).n, (smAt s.data.toList i).behind, true⟩) := Lib.hid (by rw [HST.out, smStep, if_pos hdot])
     clear HST
     clear hdot
     go_wp2_with fail
     exact ⟨⟨i + 1, es, hlt, by go_num, Lib.hid (by rw [HST2.out]; exact hI.out.more (by omega)), by rw [HST2.out], by rw [HST2.out]⟩, meas_j hls⟩
    ·have e3 : ((s[i].toNat : Int) == 46) = false := by simp; omega
     have hdg := digit_fits (HC.out.resolve_right hdot)
     obtain ⟨x, hx⟩ : ∃ x, x = s[i].toNat - 48 := ⟨_, rfl⟩
     have q1 : ((s[i].toNat : Int) - 48) % 256 = (x : Int) := by omega
     have q2 : IntKind.u32.wrap (x : Int) = (x : Int) := by rw [IntKind.wrap_u32]; omega
     have bx : x ≤ 9 := by omega
     have HST2 : Hid (smAt s.data.toList (i + 1) = ⟨(smAt s.data.toList i).n * 10 + x, if (smAt s.data.toList i).point = true then (smAt s.data.toList i).behind + 1 else (smAt s.data.toList i).behind, (smAt s.data.toList i).point⟩) := Lib.hid (by rw [HST.out, smStep, if_neg hdot, hx])
     have ht := Lib.hid (r02_times wr _ es 10 x hI.out.r hI.out.ok (by have := hI.out.len; omega) (by decide) (by omega))
     have HBH := Lib.hid (behind_le (l := s.data.toList) i (by rw [len_data]; omega))
     clear HST hdg hx
     clear hdot
     obtain ⟨S, hS⟩ : ∃ S, S = smAt s.data.toList i := ⟨_, rfl⟩
     rw [← hS] at HST2 hI HBH
     rw [← hS]
     clear hS
     have bB : S.behind ≤ i := HBH.out
     cases hpt : S.point
     all_goals
      rw [hpt] at HST2
      go_wp2_with fail
      have ht2 : Calls Tryz.prog 81 #[_, .int .u32 10, .int .u32 (x : Int)] wr (BigPost wr (bigV es * 10 + x)) := ht.out
      refine ht2.mono ?_
      intro e w2 hp
      obtain ⟨v2, fs, rfl, hN⟩ := hI.out.times (by decide) (by omega) rfl hp
      have HN := Lib.hid hN
      clear hp hN ht ht2
      go_wp2_with fail
     all_goals exact ⟨⟨i + 1, fs, hlt, by go_num, Lib.hid (by rw [HST2.out]; exact HN.out), by rw [HST2.out]; rfl, by rw [HST2.out]⟩, meas_j hls⟩
   ·have he : i = m := by omega
    subst he
    clear hi hlt
    have HBH := Lib.hid (behind_le (l := s.data.toList) i (by rw [len_data]; omega))
    obtain ⟨S, hS⟩ : ∃ S, S = smAt s.data.toList i := ⟨_, rfl⟩
    have HRX := Lib.hid (show rX s.data.toList = (if i < s.size then (if eSgn s.data.toList = true then -(rAt s.data.toList (eDig s.data.toList) s.size : Int) else (rAt s.data.toList (eDig s.data.toList) s.size : Int)) else 0) - (S.behind : Int) by
     rw [rX, HM.out, len_data, hS])
    have HSN := Lib.hid (congrArg SM.n hS.symm)
    rw [← hS] at hI HBH
    rw [← hS]
    clear hS
    have bB : S.behind ≤ i := HBH.out
    by_cases hme : i < s.size
    ·have hE := HE.out.resolve_left (by omega)
     have hEx := hE.2
     have hXE : ((s[i].toNat : Int) = 101) ∨ ((s[i].toNat : Int) = 69) := by
      have := hEx.isE
      rw [atB_lt hme] at this
      simp [isE] at this
      omega
     have hEX := Lib.hid hEx
     clear hE hEx
     rcases hXE with hXE | hXE
     all_goals
      have e1 : ((s[i].toNat : Int) != 101) = decide ((s[i].toNat : Int) ≠ 101) := by rw [Bool.eq_iff_iff]; simp
      have e2 : ((s[i].toNat : Int) != 69) = decide ((s[i].toNat : Int) ≠ 69) := by rw [Bool.eq_iff_iff]; simp
      rw [hXE] at e1 e2
      go_wp2_with fail
      obtain ⟨j, hj⟩ : ∃ j, j = eDig s.data.toList := ⟨_, rfl⟩
      obtain ⟨sg, hsg⟩ : ∃ b, b = eSgn s.data.toList := ⟨_, rfl⟩
      rw [← hj, ← hsg] at hEX HRX
      clear hj hsg
      have hjs : j < s.size := by have := hEX.out.some; rwa [len_data] at this
      have hij : i + 1 ≤ j := by rcases hEX.out.sign with h | h | h <;> omega
      go_loop [6, 9, 10] (fun t6 t9 t10 => ∃ (k p : Nat) (mi : Bool), k ≤ s.size ∧ p ≤ 1000009 ∧ t6 = .int .i64 (k : Int) ∧ t9 = .int .i64 (p : Int) ∧ t10 = .bool mi ∧ Hid ((k = i + 1 ∧ k < j ∧ p = 0 ∧ mi = false) ∨ (j ≤ k ∧ p = rAt s.data.toList j k ∧ mi = sg))) (fun t6 _ _ => s.size - (intOf t6).toNat)
      case atStart =>
       refine ⟨i + 1, 0, false, hme, by omega, by go_num, rfl, rfl, Lib.hid ?_⟩
       by_cases h : i + 1 < j
       ·exact .inl ⟨rfl, h, rfl, rfl⟩
       ·have he : j = i + 1 := by omega
        refine .inr ⟨by omega, by rw [he, rAt_start], ?_⟩
        rcases hEX.out.sign with h | h | h
        ·exact h.2.1.symm
        ·omega
        ·omega
      case round =>
       obtain ⟨k, p, mi, hk, hp, rfl, rfl, rfl, hR⟩ := hrel
       by_cases hks : k < s.size
       ·rcases hR.out with ⟨hk1, hk2, rfl, rfl⟩ | ⟨hk1, hk2, rfl⟩
        ·have hsgn : (s[k].toNat = 43 ∧ sg = false) ∨ (s[k].toNat = 45 ∧ sg = true) := by
          subst hk1
          rcases hEX.out.sign with h | h | h
          ·omega
          ·rw [atB_lt hks] at h; exact .inl ⟨h.2.2, h.2.1⟩
          ·rw [atB_lt hks] at h; exact .inr ⟨h.2.2, h.2.1⟩
         have hj2 : j = k + 1 := by
          rcases hEX.out.sign with h | h | h <;> omega
         have HR2 : Hid (rAt s.data.toList j (k + 1) = 0) := Lib.hid (by rw [hj2, rAt_start])
         have HJ2 := Lib.hid hj2
         clear hj2 hk1 hk2 hR
         rcases hsgn with ⟨hc, hs2⟩ | ⟨hc, hs2⟩
         all_goals
          have f1 : ((s[k].toNat : Int) == 45) = decide ((s[k].toNat : Int) = 45) := by rw [Bool.eq_iff_iff]; simp
          have f2 : ((s[k].toNat : Int) != 43) = decide ((s[k].toNat : Int) ≠ 43) := by rw [Bool.eq_iff_iff]; simp
          rw [hc] at f1 f2
          have HS2 := Lib.hid hs2
          clear hs2
          go_wp2_with fail
          exact ⟨⟨k + 1, 0, sg, hks, by omega, by go_num, rfl, by rw [HS2.out], Lib.hid (.inr ⟨by have := HJ2.out; omega, HR2.out.symm, rfl⟩)⟩, meas_j hks⟩
        ·have hdg := hEX.out.digs k hk1 (by rw [len_data]; exact hks)
         rw [atB_lt hks] at hdg
         have hdf := digit_fits hdg
         obtain ⟨x, hx⟩ : ∃ x, x = s[k].toNat - 48 := ⟨_, rfl⟩
         have f1 : ((s[k].toNat : Int) == 45) = false := by simp; omega
         have f2 : ((s[k].toNat : Int) != 43) = true := by simp; omega
         have f3 : ((s[k].toNat : Int) - 48) % 256 = (x : Int) := by omega
         have bx : x ≤ 9 := by omega
         have HR2 : Hid (rAt s.data.toList j (k + 1) = if p < 100000 then p * 10 + x else p) := Lib.hid (by rw [rAt_succ hk1 (by rw [len_data]; exact hks), ← hk2, atB_lt hks, rStep, hx])
         have HK1 := Lib.hid hk1
         clear hk1 hk2 hdg hdf hx
         by_cases hp5 : p < 100000
         ·have f4 : ((p : Int) < 100000) = True := eq_true (by omega)
          go_wp2_with fail
          exact ⟨⟨k + 1, p * 10 + x, mi, hks, by omega, by go_num, by apply vi'; omega, rfl, Lib.hid (.inr ⟨by have := HK1.out; omega, by rw [HR2.out, if_pos hp5], rfl⟩)⟩, meas_j hks⟩
         ·have f4 : ((p : Int) < 100000) = False := eq_false (by omega)
          go_wp2_with fail
          exact ⟨⟨k + 1, p, mi, hks, hp, by go_num, rfl, rfl, Lib.hid (.inr ⟨by have := HK1.out; omega, by rw [HR2.out, if_neg hp5], rfl⟩)⟩, meas_j hks⟩
       ·have hks2 : k = s.size := by omega
        have hR2 := hR.out.resolve_left (by omega)
        have HRX2 : Hid (rX s.data.toList = (if mi = true then -(p : Int) else (p : Int)) - (S.behind : Int)) := Lib.hid (by rw [HRX.out, if_pos hme, hR2.2.1, hR2.2.2, hks2])
        clear hR hR2 hks2
        cases mi
        all_goals
         go_wp2_with fail
         rw [HRX2.out]
         go_ret2
         exact ⟨_, es, rfl, by rw [HSN.out]; exact hI.out.more hms⟩
    ·go_wp2_with fail
     go_loop [6, 9, 10] (fun t6 t9 t10 => t6 = .int .i64 ((i : Int) + 1) ∧ t9 = .int .i64 0 ∧ t10 = .bool false) (fun _ _ _ => 0)
     case atStart => exact ⟨by go_num, rfl, rfl⟩
     case round =>
      obtain ⟨rfl, rfl, rfl⟩ := hrel
      go_wp2_with fail
      rw [HRX.out, if_neg hme, Int.zero_sub]
      go_ret2
      exact ⟨_, es, rfl, by rw [HSN.out]; exact hI.out.more hms⟩
end Go.Proofs.YtpkeonafcldkhaaGreatDoor
