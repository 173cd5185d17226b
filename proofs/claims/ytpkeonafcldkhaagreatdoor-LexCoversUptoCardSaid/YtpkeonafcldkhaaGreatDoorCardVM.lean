import Derived.Test.YtpkeonafcldkhaaGreatDoorQ49
import Derived.Test.YtpkeonafcldkhaaGreatDoorQ50
import Derived.Test.YtpkeonafcldkhaaGreatDoorQ39
import Derived.Test.YtpkeonafcldkhaaGreatDoorCards
import Derived.Test.YtpkeonafcldkhaaGreatDoorTie
import Derived.SevenTiedAt
/- weirlaw11.LexCovers, where what it reads is of bulk at most 1048576: the card. -/
set_option linter.unusedVariables false
set_option linter.unusedSimpArgs false
namespace Go.Proofs.YtpkeonafcldkhaaGreatDoor
open Go.ChangeShapes Go.WideShapes Go.ChangeAt Go.RowKit
theorem lexCovers.laidOut : laidOutB Tryz.prog = true := by kernel_rfl
set_option maxRecDepth 100000 in
theorem lexCovers.contract (H : Type) (enc : TypeId × Value → H) (W : World) (base : Nat) (args : Array Value) (ds gs : List (DataW H)) (before : List MemPlace)
  (hval : ∀ (j : Nat) t v, Tryz.f4.params[j]? = some t → args[j]? = some v → Value.okWide Tryz.prog W .any base t v)
  (hW : DataW.Whole enc Tryz.prog Tryz.f4.params.toList Rows.lexCoversSpec.vars false W args.toList ds gs before) (hk : Rows.uptoSmall H (ds ++ gs) = true) (hT : NumTabs W.heap.size W) :
  Calls Tryz.prog 4 args W fun e W' => ∃ v, e = .returned v ∧ Rows.lexCoversSpec.post enc Tryz.prog Tryz.f4 false true false false W args v W' := by
 have hW' := hW
 obtain ⟨p, q, hA0, hV, rfl, hfz, hnd⟩ := hW
 have hA : DataW.TrodAll enc Tryz.prog W 0 (fun _ => true) true Tryz.f4.params.toList args.toList ds p := hA0
 rw [Tryz.params4] at hA hval
 obtain ⟨v0, d0, rfl, rfl, h0⟩ := trodAll_one hA
 obtain ⟨rfl, rfl⟩ := trodVars_none hV
 obtain ⟨a, rfl⟩ := okWide_string Tryz.underlying9 (hval 0 9 v0 rfl rfl)
 have h0k := h0
 obtain ⟨f0, hf0⟩ := h0
 obtain ⟨a', ha, hxa, _⟩ := DataW.trod_string Tryz.underlying9 hf0
 obtain rfl : a = a' := by
  have ha' : [Value.string a] = [Value.string a'] := ha
  simpa using ha'
 obtain ⟨rfl, _⟩ := Prod.mk.inj hxa
 have hbk : Rows.uptoBulkAll ([.lit (.string a.data.toList)] ++ ([] : List (DataW H))) ≤ 1048576 := of_decide_eq_true hk
 simp only [List.append_nil, Rows.uptoBulkAll, Rows.uptoBulk, len_data] at hbk
 simp only [List.append_nil] at hW'
 have hlt0 : ∀ x ∈ p, x.block < W.heap.size := fun x hx => by simpa using hW'.lt x hx
 refine (law_LexCovers numT W a (by omega) hT).mono ?_
 rintro e W' ⟨rfl, hbel⟩
 refine ⟨_, rfl, _, _, _, [], p, [], by simpa using hW', ?_, ?_, ?_, hbel.frame _, fun h => by cases h⟩
 ·exact trodAll_mk1 (shut_bool Tryz.underlying4 _)
 ·exact trodAll_mk1 (Below.trod lexCovers.laidOut (by kernel_rfl) (of_decide_eq_true (by kernel_rfl)) h0k hbel hlt0)
 ·rfl
set_option maxRecDepth 100000 in
theorem lexCovers.lifted (os : Os) (started : os.Started) (H : Type) (enc : TypeId × Value → H) (F : Stop.Interp) :
  ReturnsInHanded {} Tryz.checked os 4 .any ((Rows.OpenSpec.upto Rows.lexCoversSpec).preRow enc Tryz.prog Tryz.f4 Rows.lexCoversUptoRow.domain false Rows.lexCoversUptoRow.laid) (((Rows.OpenSpec.upto Rows.lexCoversSpec).at F).post enc Tryz.prog Tryz.f4 false true false false) := by
 have hx : ∃ places, DataW.whole enc Tryz.prog ((World.laidAll Tryz.prog os laidL).forCall (fun _ _ => 0) ⟨#[], #[.string ⟨#[]⟩], []⟩).memory Tryz.f4.params.toList Rows.lexCoversSpec.vars false (#[.string ⟨#[]⟩] : Array Value).toList 8 = some ([.lit (.string [])], [], places) := ⟨[], by kernel_rfl⟩
 obtain ⟨places, hx⟩ := hx
 refine returnsInHanded_of_row (C := Tryz.checked) (s := Rows.OpenSpec.upto Rows.lexCoversSpec) own_knob started (by kernel_rfl) Tryz.func4
  (witness (enc := enc) false #[.string ⟨#[]⟩] (by kernel_rfl) (OpenSpec.preRow_of_cond 8 hx (by kernel_rfl) (fun k hk => by cases hk; kernel_rfl) (by kernel_rfl) (laid_met os _))) ?_
 intro W base args ds gs before hval hW _ hcond _ hL _ _
 exact lexCovers.contract H enc W base args ds gs before hval hW (hcond _ rfl) ⟨_, Nat.le_refl _, tabs_laid hL⟩
theorem lexCovers.said : Rows.LexCoversUptoSaid :=
 OpenClaim.holds_of_cond 4 Tryz.f4 rfl rfl rfl rfl rfl rfl rfl ⟨rfl, rfl, rfl, rfl, rfl⟩ rfl rfl rfl rfl rfl (by kernel_rfl) Tryz.func4 (by kernel_rfl)
  (of_decide_eq_true (by kernel_rfl)) (by unfold Func.isWrapper; first | (rw [if_pos (by decide +kernel)]; kernel_rfl) | (rw [if_neg (by decide +kernel)]; exact ⟨rfl, rfl⟩))
  (fun os started H enc _ F => by rw [OpenClaim.pre_eq_preRow]; exact lexCovers.lifted os started H enc F)
theorem lexCovers.plain (f : FuncId) (fn : Func) (hf : Tryz.pinned.checked.prog.funcNamed "weir/weirlaw11.LexCovers" = some f) (hfn : Tryz.pinned.checked.prog.funcs[f]? = some fn) :
  true = Tryz.pinned.checked.prog.looks [] ∧ ∀ (j : Nat) t, fn.params[j]? = some t → Tryz.pinned.checked.prog.wantsStandIn t = false := by
 obtain rfl : f = 4 := Option.some.inj ((show Tryz.prog.funcNamed "weir/weirlaw11.LexCovers" = some 4 by kernel_rfl).symm.trans hf) |>.symm
 obtain rfl : fn = Tryz.f4 := (Option.some.inj (Tryz.func4.symm.trans hfn)).symm
 refine ⟨by kernel_rfl, fun j t ht => ?_⟩
 rw [Tryz.params4] at ht
 have hm : t ∈ [9] := by simpa using Array.mem_of_getElem? ht
 have hall : ([9].all fun u => !Tryz.prog.wantsStandIn u) = true := by kernel_rfl
 have := List.all_eq_true.1 hall t hm
 show Tryz.prog.wantsStandIn t = false
 simpa using this
theorem lexCovers.card : Rows.LexCoversUptoCardSaid :=
 Claim7.holds_tied_plain_at .later [] _ _ _ _ lexCovers.said (fun _ h => by cases h) (by kernel_rfl) (fun _ h => by cases h) lexCoversUpto_row_tie rfl ⟨rfl, rfl⟩ (by kernel_rfl) rfl lexCovers.plain (by kernel_rfl)
end Go.Proofs.YtpkeonafcldkhaaGreatDoor
