import Derived.Test.YtpkeonafcldkhaaGreatDoorLawW
import Derived.Test.YtpkeonafcldkhaaGreatDoorOpenA
import Derived.Test.YtpkeonafcldkhaaGreatDoorWorld
import Derived.Test.YtpkeonafcldkhaaGreatDoorCards
import Derived.Test.YtpkeonafcldkhaaGreatDoorTie
import Derived.WalkKit
import Derived.SevenTiedAt
/- weirlaw11.LexWords, where what it reads is of bulk at most 1048576: the card. -/
set_option linter.unusedVariables false
set_option linter.unusedSimpArgs false
namespace Go.Proofs.YtpkeonafcldkhaaGreatDoor
open Go.ChangeShapes Go.WideShapes Go.ChangeAt Go.RowKit

theorem lexWords.laidOut : laidOutB Tryz.prog = true := by kernel_rfl
set_option maxRecDepth 100000 in
theorem lexWords.contract (H : Type) (enc : TypeId × Value → H) (W : World) (base : Nat) (args : Array Value) (ds gs : List (DataW H)) (before : List MemPlace)
    (hval : ∀ (j : Nat) t v, Tryz.f9.params[j]? = some t → args[j]? = some v → Value.okWide Tryz.prog W .any base t v)
    (hW : DataW.Whole enc Tryz.prog Tryz.f9.params.toList Rows.lexWordsSpec.vars false W args.toList ds gs before) (hk : Rows.uptoSmall H (ds ++ gs) = true) :
    Calls Tryz.prog 9 args W fun e W' => ∃ v, e = .returned v ∧ Rows.lexWordsSpec.post enc Tryz.prog Tryz.f9 false true false false W args v W' := by
  have hW' := hW
  obtain ⟨p, q, hA0, hV, rfl, hfz, hnd⟩ := hW
  have hA : DataW.TrodAll enc Tryz.prog W 0 (fun _ => true) true Tryz.f9.params.toList args.toList ds p := hA0
  rw [Tryz.params9] at hA hval
  obtain ⟨v0, v1, d0, d1, p0, p1, rfl, rfl, rfl, h0, h1⟩ := trodAll_two hA
  obtain ⟨rfl, rfl⟩ := trodVars_none hV
  obtain ⟨a0, len0, cap0, rfl⟩ := okWide_slice Tryz.underlying22 (hval 0 22 v0 rfl rfl)
  obtain ⟨a1, len1, cap1, rfl⟩ := okWide_slice Tryz.underlying24 (hval 1 24 v1 rfl rfl)
  have h0k := h0
  have h1k := h1
  obtain ⟨f0, hf0⟩ := h0
  obtain ⟨f1, hf1⟩ := h1
  obtain ⟨ss, hs, hss, hcount⟩ := open_strs hf0
  obtain ⟨xs, hx, hxd⟩ := open_toks hf1
  have hb : Rows.uptoBulkAll ([d0, d1] ++ ([] : List (DataW H))) ≤ 1048576 := of_decide_eq_true hk
  simp only [List.append_nil, Rows.uptoBulkAll] at hb
  have hns : ss.length ≤ 1048576 := by
    rcases hcount with h | ⟨es, sp, he, hl⟩
    · omega
    · have he' : d0 = .slice es sp := he
      subst he'
      have := bulk_len es
      simp only [Rows.uptoBulk] at hb
      omega
  have hjoin : (joinL (textsOf xs)).length + xs.length ≤ 1048576 := by
    rcases hxd with h | ⟨sp, he⟩
    · subst h; simp [joinL, textsOf]
    · have he' : d1 = .slice (xs.map tokD) sp := he
      subst he'
      have := bulk_toks (H := H) xs
      simp only [Rows.uptoBulk] at hb
      omega
  clear hb hcount hxd
  simp only [List.append_nil] at hW'
  have hlt0 : ∀ x ∈ p0, x.block < W.heap.size := fun x hx => by simpa using hW'.lt x (List.mem_append_left _ hx)
  have hlt1 : ∀ x ∈ p1, x.block < W.heap.size := fun x hx => by simpa using hW'.lt x (List.mem_append_right _ hx)
  refine (law_LexWords W _ _ ss xs hs hx hss (by omega) (by omega) (by omega)).mono ?_
  rintro e W' ⟨rfl, hbel⟩
  refine ⟨_, rfl, _, _, _, [], p0 ++ p1, [], by simpa using hW', ?_, ?_, ?_, hbel.frame _, fun h => by cases h⟩
  · exact trodAll_mk1 (shut_bool Tryz.underlying4 _)
  · exact trodAll_mk2 (Below.trod lexWords.laidOut (by kernel_rfl) (of_decide_eq_true (by kernel_rfl)) h0k hbel hlt0) (Below.trod lexWords.laidOut (by kernel_rfl) (of_decide_eq_true (by kernel_rfl)) h1k hbel hlt1)
  · rfl
set_option maxRecDepth 100000 in
theorem lexWords.lifted (os : Os) (started : os.Started) (H : Type) (enc : TypeId × Value → H) (F : Stop.Interp) :
    ReturnsInHanded {} Tryz.checked os 9 .any ((Rows.OpenSpec.upto Rows.lexWordsSpec).preRow enc Tryz.prog Tryz.f9 Rows.lexWordsUptoRow.domain false Rows.lexWordsUptoRow.laid) (((Rows.OpenSpec.upto Rows.lexWordsSpec).at F).post enc Tryz.prog Tryz.f9 false true false false) := by
  have hx : ∃ places, DataW.whole enc Tryz.prog ((World.laidAll Tryz.prog os laidL).forCall (fun _ _ => 0) ⟨#[], #[.slice none 0 0, .slice none 0 0], []⟩).memory Tryz.f9.params.toList Rows.lexWordsSpec.vars false (#[.slice none 0 0, .slice none 0 0] : Array Value).toList 8 = some ([.nil, .nil], [], places) := ⟨[], by kernel_rfl⟩
  obtain ⟨places, hx⟩ := hx
  refine returnsInHanded_of_row (C := Tryz.checked) (s := Rows.OpenSpec.upto Rows.lexWordsSpec) own_knob started (by kernel_rfl) Tryz.func9
    (witness (enc := enc) false #[.slice none 0 0, .slice none 0 0] (by kernel_rfl) (OpenSpec.preRow_of_cond 8 hx (by kernel_rfl) (fun k hk => by cases hk; kernel_rfl) (by kernel_rfl) (laid_met os _))) ?_
  intro W base args ds gs before hval hW _ hcond _ hL _ _
  exact lexWords.contract H enc W base args ds gs before hval hW (hcond _ rfl)
theorem lexWords.said : Rows.LexWordsUptoSaid :=
  OpenClaim.holds_of_cond 9 Tryz.f9 rfl rfl rfl rfl rfl rfl rfl ⟨rfl, rfl, rfl, rfl, rfl⟩ rfl rfl rfl rfl rfl (by kernel_rfl) Tryz.func9 (by kernel_rfl)
    (of_decide_eq_true (by kernel_rfl)) (by unfold Func.isWrapper; first | (rw [if_pos (by decide +kernel)]; kernel_rfl) | (rw [if_neg (by decide +kernel)]; exact ⟨rfl, rfl⟩))
    (fun os started H enc _ F => by rw [OpenClaim.pre_eq_preRow]; exact lexWords.lifted os started H enc F)
theorem lexWords.plain (f : FuncId) (fn : Func) (hf : Tryz.pinned.checked.prog.funcNamed "weir/weirlaw11.LexWords" = some f) (hfn : Tryz.pinned.checked.prog.funcs[f]? = some fn) :
    true = Tryz.pinned.checked.prog.looks [] ∧ ∀ (j : Nat) t, fn.params[j]? = some t → Tryz.pinned.checked.prog.wantsStandIn t = false := by
  obtain rfl : f = 9 := Option.some.inj ((show Tryz.prog.funcNamed "weir/weirlaw11.LexWords" = some 9 by kernel_rfl).symm.trans hf) |>.symm
  obtain rfl : fn = Tryz.f9 := (Option.some.inj (Tryz.func9.symm.trans hfn)).symm
  refine ⟨by kernel_rfl, fun j t ht => ?_⟩
  rw [Tryz.params9] at ht
  have hm : t ∈ [22, 24] := by simpa using Array.mem_of_getElem? ht
  have hall : ([22, 24].all fun u => !Tryz.prog.wantsStandIn u) = true := by kernel_rfl
  have := List.all_eq_true.1 hall t hm
  show Tryz.prog.wantsStandIn t = false
  simpa using this
/-- The card. -/
theorem lexWords.card : Rows.LexWordsUptoCardSaid :=
  Claim7.holds_tied_plain_at .later [] _ _ _ _ lexWords.said (fun _ h => by cases h) (by kernel_rfl) (fun _ h => by cases h) lexWordsUpto_row_tie rfl ⟨rfl, rfl⟩ (by kernel_rfl) rfl lexWords.plain (by kernel_rfl)
end Go.Proofs.YtpkeonafcldkhaaGreatDoor
