import Derived.Test.YtibcjfjacielbaaGreatDoorG39
import Derived.Test.YtibcjfjacielbaaGreatDoorG50
import Derived.Test.YtibcjfjacielbaaGreatDoorG49
import Derived.Test.YtibcjfjacielbaaGreatDoorCards
import Derived.Test.YtibcjfjacielbaaGreatDoorTie
import Derived.SevenTiedAt
/- weirlaw12.TreeGrows, where what it reads is of bulk at most 1048576: the card. -/
set_option linter.unusedVariables false
set_option linter.unusedSimpArgs false
namespace Go.Proofs.YtibcjfjacielbaaGreatDoor
open Go.ChangeShapes Go.WideShapes Go.ChangeAt Go.RowKit
theorem treeGrows.laidOut : laidOutB Tryz.prog = true := by kernel_rfl
set_option maxRecDepth 100000 in
theorem treeGrows.contract (H : Type) (enc : TypeId × Value → H) (W : World) (base : Nat) (args : Array Value) (ds gs : List (DataW H)) (before : List MemPlace)
  (hval : ∀ (j : Nat) t v, Tryz.f5.params[j]? = some t → args[j]? = some v → Value.okWide Tryz.prog W .any base t v)
  (hW : DataW.Whole enc Tryz.prog Tryz.f5.params.toList Rows.treeGrowsSpec.vars false W args.toList ds gs before) (hk : Rows.uptoSmall H (ds ++ gs) = true) (hT : NumTabs W.heap.size W) :
  Calls Tryz.prog 5 args W fun e W' => ∃ v, e = .returned v ∧ Rows.treeGrowsSpec.post enc Tryz.prog Tryz.f5 false true false false W args v W' := by
 have hW' := hW
 obtain ⟨p, q, hA0, hV, rfl, hfz, hnd⟩ := hW
 have hA : DataW.TrodAll enc Tryz.prog W 0 (fun _ => true) true Tryz.f5.params.toList args.toList ds p := hA0
 rw [Tryz.params5] at hA hval
 obtain ⟨v0, v1, d0, d1, p0, p1, rfl, rfl, rfl, h0, h1⟩ := trodAll_two hA
 obtain ⟨rfl, rfl⟩ := trodVars_none hV
 obtain ⟨a0, len0, cap0, rfl⟩ := okWide_slice Tryz.underlying39 (hval 0 39 v0 rfl rfl)
 obtain ⟨a1, len1, cap1, rfl⟩ := okWide_slice Tryz.underlying39 (hval 1 39 v1 rfl rfl)
 have h0k := h0
 have h1k := h1
 obtain ⟨f0, hf0⟩ := h0
 obtain ⟨f1, hf1⟩ := h1
 obtain ⟨a, ra, hca, hna, hsa⟩ := open_rows hf0
 obtain ⟨b, rb, hcb, hnb, hsb⟩ := open_rows hf1
 have hbk : Rows.uptoBulkAll ([d0, d1] ++ ([] : List (DataW H))) ≤ 1048576 := of_decide_eq_true hk
 simp only [List.append_nil, Rows.uptoBulkAll] at hbk
 simp only at hna hnb hsa hsb
 simp only [List.append_nil] at hW'
 have hlt0 : ∀ x ∈ p0, x.block < W.heap.size := fun x hx => by simpa using hW'.lt x (List.mem_append_left _ hx)
 have hlt1 : ∀ x ∈ p1, x.block < W.heap.size := fun x hx => by simpa using hW'.lt x (List.mem_append_right _ hx)
 refine (law_TreeGrows numT W _ _ _ _ _ _ a b ⟨ra, hca⟩ ⟨rb, hcb⟩ (by omega) (by omega) (fun r hr => ((hsa r hr).up (by omega)).small) (fun r hr => ((hsb r hr).up (by omega)).small) hT).mono ?_
 rintro e W' ⟨rfl, hbel⟩
 refine ⟨_, rfl, _, _, _, [], p0 ++ p1, [], by simpa using hW', ?_, ?_, ?_, hbel.frame _, fun h => by cases h⟩
 ·exact trodAll_mk1 (shut_bool Tryz.underlying4 _)
 ·exact trodAll_mk2 (Below.trod treeGrows.laidOut (by kernel_rfl) (of_decide_eq_true (by kernel_rfl)) h0k hbel hlt0) (Below.trod treeGrows.laidOut (by kernel_rfl) (of_decide_eq_true (by kernel_rfl)) h1k hbel hlt1)
 ·rfl
set_option maxRecDepth 100000 in
theorem treeGrows.lifted (os : Os) (started : os.Started) (H : Type) (enc : TypeId × Value → H) (F : Stop.Interp) :
  ReturnsInHanded {} Tryz.checked os 5 .any ((Rows.OpenSpec.upto Rows.treeGrowsSpec).preRow enc Tryz.prog Tryz.f5 Rows.treeGrowsUptoRow.domain false Rows.treeGrowsUptoRow.laid) (((Rows.OpenSpec.upto Rows.treeGrowsSpec).at F).post enc Tryz.prog Tryz.f5 false true false false) := by
 have hx : ∃ places, DataW.whole enc Tryz.prog ((World.laidAll Tryz.prog os laidL).forCall (fun _ _ => 0) ⟨#[], #[.slice none 0 0, .slice none 0 0], []⟩).memory Tryz.f5.params.toList Rows.treeGrowsSpec.vars false (#[.slice none 0 0, .slice none 0 0] : Array Value).toList 8 = some ([.nil, .nil], [], places) := ⟨[], by as_aux_lemma => kernel_rfl⟩
 obtain ⟨places, hx⟩ := hx
 refine returnsInHanded_of_row (C := Tryz.checked) (s := Rows.OpenSpec.upto Rows.treeGrowsSpec) own_knob started (by as_aux_lemma => kernel_rfl) Tryz.func5
  (witness (enc := enc) false #[.slice none 0 0, .slice none 0 0] (by as_aux_lemma => kernel_rfl) (OpenSpec.preRow_of_cond 8 hx (by as_aux_lemma => kernel_rfl) (fun k hk => by cases hk; kernel_rfl) (by as_aux_lemma => kernel_rfl) (laid_met os _))) ?_
 intro W base args ds gs before hval hW _ hcond _ hL _ _
 exact treeGrows.contract H enc W base args ds gs before hval hW (hcond _ rfl) ⟨_, Nat.le_refl _, tabs_laid hL⟩
theorem and2 {a b : Bool} (h1 : a = true) (h2 : b = true) : (a && b) = true := by rw [h1, h2]; rfl
set_option maxRecDepth 100000 in
set_option maxHeartbeats 4000000 in
theorem treeGrows.facts : joinedFacts Tryz.pinned.checked.prog 5 Tryz.f5 (Rows.OpenSpec.upto Rows.treeGrowsSpec).bare Rows.treeGrowsUptoRow = true := by
 unfold joinedFacts
 repeat' (with_reducible refine and2 ?_ ?_)
 all_goals (as_aux_lemma => kernel_rfl)
set_option maxHeartbeats 4000000 in
theorem treeGrows.said : Rows.TreeGrowsUptoSaid :=
 OpenClaim.holds_of_cond 5 Tryz.f5 rfl rfl rfl rfl rfl rfl rfl ⟨rfl, rfl, rfl, rfl, rfl⟩ rfl rfl rfl rfl rfl (by as_aux_lemma => kernel_rfl) Tryz.func5 treeGrows.facts
  (of_decide_eq_true (by as_aux_lemma => kernel_rfl)) (by unfold Func.isWrapper; first | (rw [if_pos (by decide +kernel)]; kernel_rfl) | (rw [if_neg (by decide +kernel)]; exact ⟨rfl, rfl⟩))
  (fun os started H enc _ F => by rw [OpenClaim.pre_eq_preRow]; exact treeGrows.lifted os started H enc F)
theorem treeGrows.plain (f : FuncId) (fn : Func) (hf : Tryz.pinned.checked.prog.funcNamed "weir/weirlaw12.TreeGrows" = some f) (hfn : Tryz.pinned.checked.prog.funcs[f]? = some fn) :
  true = Tryz.pinned.checked.prog.looks [] ∧ ∀ (j : Nat) t, fn.params[j]? = some t → Tryz.pinned.checked.prog.wantsStandIn t = false := by
 obtain rfl : f = 5 := Option.some.inj ((show Tryz.prog.funcNamed "weir/weirlaw12.TreeGrows" = some 5 by kernel_rfl).symm.trans hf) |>.symm
 obtain rfl : fn = Tryz.f5 := (Option.some.inj (Tryz.func5.symm.trans hfn)).symm
 refine ⟨by kernel_rfl, fun j t ht => ?_⟩
 rw [Tryz.params5] at ht
 have hm : t ∈ [39, 39] := by simpa using Array.mem_of_getElem? ht
 have hall : ([39, 39].all fun u => !Tryz.prog.wantsStandIn u) = true := by kernel_rfl
 have := List.all_eq_true.1 hall t hm
 show Tryz.prog.wantsStandIn t = false
 simpa using this
set_option maxHeartbeats 4000000 in
theorem treeGrows.card : Rows.TreeGrowsUptoCardSaid :=
 Claim7.holds_tied_plain_at .later [] _ _ _ _ treeGrows.said (fun _ h => by cases h) (by as_aux_lemma => kernel_rfl) (fun _ h => by cases h) treeGrowsUpto_row_tie rfl ⟨rfl, rfl⟩ (by as_aux_lemma => kernel_rfl) rfl treeGrows.plain (by as_aux_lemma => kernel_rfl)
end Go.Proofs.YtibcjfjacielbaaGreatDoor
