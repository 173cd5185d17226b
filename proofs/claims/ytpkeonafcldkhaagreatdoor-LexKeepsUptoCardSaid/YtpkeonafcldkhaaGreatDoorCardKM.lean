import Derived.Test.YtpkeonafcldkhaaGreatDoorM33
import Derived.Test.YtpkeonafcldkhaaGreatDoorM29
import Derived.Test.YtpkeonafcldkhaaGreatDoorM31
import Derived.Test.YtpkeonafcldkhaaGreatDoorM30
import Derived.Test.YtpkeonafcldkhaaGreatDoorCards
import Derived.Test.YtpkeonafcldkhaaGreatDoorTie
import Derived.WalkKit
import Derived.SevenTiedAt
/- weirlaw11.LexKeeps, where what it reads is of bulk at most 1048576: the card. -/
set_option linter.unusedVariables false
set_option linter.unusedSimpArgs false
namespace Go.Proofs.YtpkeonafcldkhaaGreatDoor
open Go.ChangeShapes Go.WideShapes Go.ChangeAt Go.RowKit

theorem lexKeeps.laidOut : laidOutB Tryz.prog = true := by kernel_rfl
set_option maxRecDepth 100000 in
theorem lexKeeps.contract (H : Type) (enc : TypeId × Value → H) (W : World) (base : Nat) (args : Array Value) (ds gs : List (DataW H)) (before : List MemPlace)
    (hval : ∀ (j : Nat) t v, Tryz.f7.params[j]? = some t → args[j]? = some v → Value.okWide Tryz.prog W .any base t v)
    (hW : DataW.Whole enc Tryz.prog Tryz.f7.params.toList Rows.lexKeepsSpec.vars false W args.toList ds gs before) (hk : Rows.uptoSmall H (ds ++ gs) = true) (hT : NumTabs W.heap.size W) :
    Calls Tryz.prog 7 args W fun e W' => ∃ v, e = .returned v ∧ Rows.lexKeepsSpec.post enc Tryz.prog Tryz.f7 false true false false W args v W' := by
  have hW' := hW
  obtain ⟨p, q, hA0, hV, rfl, hfz, hnd⟩ := hW
  have hA : DataW.TrodAll enc Tryz.prog W 0 (fun _ => true) true Tryz.f7.params.toList args.toList ds p := hA0
  rw [Tryz.params7] at hA hval
  obtain ⟨v0, v1, d0, d1, p0, p1, rfl, rfl, rfl, h0, h1⟩ := trodAll_two hA
  obtain ⟨rfl, rfl⟩ := trodVars_none hV
  obtain ⟨a, rfl⟩ := okWide_string Tryz.underlying9 (hval 0 9 v0 rfl rfl)
  obtain ⟨a1, len1, cap1, rfl⟩ := okWide_slice Tryz.underlying24 (hval 1 24 v1 rfl rfl)
  have h0k := h0
  have h1k := h1
  obtain ⟨f0, hf0⟩ := h0
  obtain ⟨f1, hf1⟩ := h1
  obtain ⟨a', ha, hxa, _⟩ := DataW.trod_string Tryz.underlying9 hf0
  obtain rfl : a = a' := by
    have ha' : [Value.string a] = [Value.string a'] := ha
    simpa using ha'
  obtain ⟨rfl, _⟩ := Prod.mk.inj hxa
  obtain ⟨zs, hz, hza, hzd⟩ := open_toks2 hf1
  have hbk : Rows.uptoBulkAll ([.lit (.string a.data.toList), d1] ++ ([] : List (DataW H))) ≤ 1048576 := of_decide_eq_true hk
  simp only [List.append_nil, Rows.uptoBulkAll, Rows.uptoBulk, len_data] at hbk
  have hjoin : (joinL (textsOf zs)).length + zs.length ≤ 1048576 := by
    rcases hzd with h | ⟨sp, he⟩
    · subst h; simp [joinL, textsOf]
    · have he' : d1 = .slice (zs.map tokD) sp := he
      subst he'
      have := bulk_toks (H := H) zs
      simp only [Rows.uptoBulk] at hbk
      omega
  simp only [List.append_nil] at hW'
  have hlt0 : ∀ x ∈ p0, x.block < W.heap.size := fun x hx => by simpa using hW'.lt x (List.mem_append_left _ hx)
  have hlt1 : ∀ x ∈ p1, x.block < W.heap.size := fun x hx => by simpa using hW'.lt x (List.mem_append_right _ hx)
  refine (law_LexKeeps numT W a _ _ _ zs (by omega) hz hza (by omega) hjoin (fun x hx => by have := text_le x hx; omega) hT).mono ?_
  rintro e W' ⟨rfl, hbel⟩
  refine ⟨_, rfl, _, _, _, [], p0 ++ p1, [], by simpa using hW', ?_, ?_, ?_, hbel.frame _, fun h => by cases h⟩
  · exact trodAll_mk1 (shut_bool Tryz.underlying4 _)
  · exact trodAll_mk2 (Below.trod lexKeeps.laidOut (by kernel_rfl) (of_decide_eq_true (by kernel_rfl)) h0k hbel hlt0) (Below.trod lexKeeps.laidOut (by kernel_rfl) (of_decide_eq_true (by kernel_rfl)) h1k hbel hlt1)
  · rfl
set_option maxRecDepth 100000 in
theorem lexKeeps.lifted (os : Os) (started : os.Started) (H : Type) (enc : TypeId × Value → H) (F : Stop.Interp) :
    ReturnsInHanded {} Tryz.checked os 7 .any ((Rows.OpenSpec.upto Rows.lexKeepsSpec).preRow enc Tryz.prog Tryz.f7 Rows.lexKeepsUptoRow.domain false Rows.lexKeepsUptoRow.laid) (((Rows.OpenSpec.upto Rows.lexKeepsSpec).at F).post enc Tryz.prog Tryz.f7 false true false false) := by
  have hx : ∃ places, DataW.whole enc Tryz.prog ((World.laidAll Tryz.prog os laidL).forCall (fun _ _ => 0) ⟨#[], #[.string ⟨#[]⟩, .slice none 0 0], []⟩).memory Tryz.f7.params.toList Rows.lexKeepsSpec.vars false (#[.string ⟨#[]⟩, .slice none 0 0] : Array Value).toList 8 = some ([.lit (.string []), .nil], [], places) := ⟨[], by kernel_rfl⟩
  obtain ⟨places, hx⟩ := hx
  refine returnsInHanded_of_row (C := Tryz.checked) (s := Rows.OpenSpec.upto Rows.lexKeepsSpec) own_knob started (by kernel_rfl) Tryz.func7
    (witness (enc := enc) false #[.string ⟨#[]⟩, .slice none 0 0] (by kernel_rfl) (OpenSpec.preRow_of_cond 8 hx (by kernel_rfl) (fun k hk => by cases hk; kernel_rfl) (by kernel_rfl) (laid_met os _))) ?_
  intro W base args ds gs before hval hW _ hcond _ hL _ _
  exact lexKeeps.contract H enc W base args ds gs before hval hW (hcond _ rfl) ⟨_, Nat.le_refl _, tabs_laid hL⟩
theorem lexKeeps.said : Rows.LexKeepsUptoSaid :=
  OpenClaim.holds_of_cond 7 Tryz.f7 rfl rfl rfl rfl rfl rfl rfl ⟨rfl, rfl, rfl, rfl, rfl⟩ rfl rfl rfl rfl rfl (by kernel_rfl) Tryz.func7 (by kernel_rfl)
    (of_decide_eq_true (by kernel_rfl)) (by unfold Func.isWrapper; first | (rw [if_pos (by decide +kernel)]; kernel_rfl) | (rw [if_neg (by decide +kernel)]; exact ⟨rfl, rfl⟩))
    (fun os started H enc _ F => by rw [OpenClaim.pre_eq_preRow]; exact lexKeeps.lifted os started H enc F)
theorem lexKeeps.plain (f : FuncId) (fn : Func) (hf : Tryz.pinned.checked.prog.funcNamed "weir/weirlaw11.LexKeeps" = some f) (hfn : Tryz.pinned.checked.prog.funcs[f]? = some fn) :
    true = Tryz.pinned.checked.prog.looks [] ∧ ∀ (j : Nat) t, fn.params[j]? = some t → Tryz.pinned.checked.prog.wantsStandIn t = false := by
  obtain rfl : f = 7 := Option.some.inj ((show Tryz.prog.funcNamed "weir/weirlaw11.LexKeeps" = some 7 by kernel_rfl).symm.trans hf) |>.symm
  obtain rfl : fn = Tryz.f7 := (Option.some.inj (Tryz.func7.symm.trans hfn)).symm
  refine ⟨by kernel_rfl, fun j t ht => ?_⟩
  rw [Tryz.params7] at ht
  have hm : t ∈ [9, 24] := by simpa using Array.mem_of_getElem? ht
  have hall : ([9, 24].all fun u => !Tryz.prog.wantsStandIn u) = true := by kernel_rfl
  have := List.all_eq_true.1 hall t hm
  show Tryz.prog.wantsStandIn t = false
  simpa using this
/-- The card. -/
theorem lexKeeps.card : Rows.LexKeepsUptoCardSaid :=
  Claim7.holds_tied_plain_at .later [] _ _ _ _ lexKeeps.said (fun _ h => by cases h) (by kernel_rfl) (fun _ h => by cases h) lexKeepsUpto_row_tie rfl ⟨rfl, rfl⟩ (by kernel_rfl) rfl lexKeeps.plain (by kernel_rfl)
end Go.Proofs.YtpkeonafcldkhaaGreatDoor
