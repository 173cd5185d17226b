import Derived.Test.YtibcjfjacielbaaGreatDoorH39
import Derived.Test.YtibcjfjacielbaaGreatDoorH50
import Derived.Test.YtibcjfjacielbaaGreatDoorH49
import Derived.Test.YtibcjfjacielbaaGreatDoorCards
import Derived.Test.YtibcjfjacielbaaGreatDoorTie
import Derived.SevenTiedAt
/- weirlaw12.TreeKeeps, where what it reads is of bulk at most 1048576: the card. -/
set_option maxRecDepth 100000
set_option maxHeartbeats 4000000
set_option linter.unusedVariables false
set_option linter.unusedSimpArgs false
namespace Go.Proofs.YtibcjfjacielbaaGreatDoor
open Go.ChangeShapes Go.WideShapes Go.ChangeAt Go.RowKit
theorem treeKeeps.laidOut:laidOutB Tryz.prog=true:=by kernel_rfl
theorem treeKeeps.contract (H:Type) (enc:TypeId×Value→H) (W:World) (base:Nat) (args:Array Value) (ds gs:List (DataW H)) (before:List MemPlace)
  (hval: ∀(j:Nat) t v,Tryz.f8.params[j]? =some t→args[j]? =some v→Value.okWide Tryz.prog W .any base t v)
  (hW:DataW.Whole enc Tryz.prog Tryz.f8.params.toList Rows.treeKeepsSpec.vars false W args.toList ds gs before) (hk:Rows.uptoSmall H (ds++gs)=true) (hT:NumTabs W.heap.size W):
  Calls Tryz.prog 8 args W fun e W'=> ∃v,e= .returned v∧Rows.treeKeepsSpec.post enc Tryz.prog Tryz.f8 false true false false W args v W':=by
 have hW':=hW;obtain⟨p,q,hA0,hV,rfl,hfz,hnd⟩:=hW;have hA:DataW.TrodAll enc Tryz.prog W 0 (fun _=>true) true Tryz.f8.params.toList args.toList ds p:=hA0;rw[Tryz.params8]at hA hval;obtain⟨v0,d0,rfl,rfl,h0⟩:=trodAll_one hA;obtain⟨rfl,rfl⟩:=trodVars_none hV;obtain⟨a0,len0,cap0,rfl⟩:=okWide_slice Tryz.underlying39 (hval 0 39 v0 rfl rfl);have h0k:=h0;obtain⟨f0,hf0⟩:=h0;obtain⟨a,ra,hca,hna,hsa⟩:=open_rows hf0;have hbk:Rows.uptoBulkAll ([d0]++([]:List (DataW H)))≤1048576:=of_decide_eq_true hk;simp only[List.append_nil,Rows.uptoBulkAll]at hbk;simp only at hna hsa;simp only[List.append_nil]at hW';have hlt0: ∀x∈p,x.block<W.heap.size:=fun x hx=>by simpa using hW'.lt x hx
 refine(law_TreeKeeps numT W _ _ _ a ⟨ra,hca⟩ (by omega) (fun r hr=>((hsa r hr).up (by omega)).small) hT).mono ?_;rintro e W' ⟨rfl,hbel⟩;refine⟨_,rfl,_,_,_,[],p,[],by simpa using hW',?_,?_,?_,hbel.frame _,fun h=>by cases h⟩
 ·exact trodAll_mk1 (shut_bool Tryz.underlying4 _)
 ·exact trodAll_mk1 (Below.trod treeKeeps.laidOut (by kernel_rfl) (of_decide_eq_true (by kernel_rfl)) h0k hbel hlt0)
 ·rfl
theorem treeKeeps.lifted (os:Os) (started:os.Started) (H:Type) (enc:TypeId×Value→H) (F:Stop.Interp):
  ReturnsInHanded {} Tryz.checked os 8 .any ((Rows.OpenSpec.upto Rows.treeKeepsSpec).preRow enc Tryz.prog Tryz.f8 Rows.treeKeepsUptoRow.domain false Rows.treeKeepsUptoRow.laid) (((Rows.OpenSpec.upto Rows.treeKeepsSpec).at F).post enc Tryz.prog Tryz.f8 false true false false):=by
 have hx: ∃places,DataW.whole enc Tryz.prog ((World.laidAll Tryz.prog os laidL).forCall (fun _ _=>0) ⟨#[],#[.slice none 0 0],[]⟩).memory Tryz.f8.params.toList Rows.treeKeepsSpec.vars false (#[.slice none 0 0]:Array Value).toList 8=some ([.nil],[],places):=⟨[],by as_aux_lemma=>kernel_rfl⟩;obtain⟨places,hx⟩:=hx;refine returnsInHanded_of_row (C:=Tryz.checked) (s:=Rows.OpenSpec.upto Rows.treeKeepsSpec) own_knob started (by as_aux_lemma=>kernel_rfl) Tryz.func8
  (witness (enc:=enc) false #[.slice none 0 0] (by as_aux_lemma=>kernel_rfl) (OpenSpec.preRow_of_cond 8 hx (by as_aux_lemma=>kernel_rfl) (fun k hk=>by cases hk;kernel_rfl) (by as_aux_lemma=>kernel_rfl) (laid_met os _))) ?_
 intro W base args ds gs before hval hW _ hcond _ hL _ _;exact treeKeeps.contract H enc W base args ds gs before hval hW (hcond _ rfl) ⟨_,Nat.le_refl _,tabs_laid hL⟩
theorem and2 {a b:Bool} (h1:a=true) (h2:b=true):(a&&b)=true:=by rw[h1,h2];rfl
theorem treeKeeps.facts:joinedFacts Tryz.pinned.checked.prog 8 Tryz.f8 (Rows.OpenSpec.upto Rows.treeKeepsSpec).bare Rows.treeKeepsUptoRow=true:=by
 unfold joinedFacts
 repeat' (with_reducible refine and2 ?_ ?_)
 all_goals (as_aux_lemma=>kernel_rfl)
theorem treeKeeps.said:Rows.TreeKeepsUptoSaid:=
 OpenClaim.holds_of_cond 8 Tryz.f8 rfl rfl rfl rfl rfl rfl rfl ⟨rfl,rfl,rfl,rfl,rfl⟩ rfl rfl rfl rfl rfl (by as_aux_lemma=>kernel_rfl) Tryz.func8 treeKeeps.facts
  (of_decide_eq_true (by as_aux_lemma=>kernel_rfl)) (by unfold Func.isWrapper;first|(rw[if_pos (by decide+kernel)];kernel_rfl)|(rw[if_neg (by decide+kernel)];exact⟨rfl,rfl⟩))
  (fun os started H enc _ F=>by rw[OpenClaim.pre_eq_preRow];exact treeKeeps.lifted os started H enc F)
theorem treeKeeps.plain (f:FuncId) (fn:Func) (hf:Tryz.pinned.checked.prog.funcNamed "weir/weirlaw12.TreeKeeps" =some f) (hfn:Tryz.pinned.checked.prog.funcs[f]? =some fn):
  true=Tryz.pinned.checked.prog.looks []∧ ∀(j:Nat) t,fn.params[j]? =some t→Tryz.pinned.checked.prog.wantsStandIn t=false:=by
 obtain rfl:f=8:=Option.some.inj ((show Tryz.prog.funcNamed "weir/weirlaw12.TreeKeeps" =some 8 by kernel_rfl).symm.trans hf) |>.symm;obtain rfl:fn=Tryz.f8:=(Option.some.inj (Tryz.func8.symm.trans hfn)).symm;refine⟨by kernel_rfl,fun j t ht=>?_⟩;rw[Tryz.params8]at ht;have hm:t∈[39]:=by simpa using Array.mem_of_getElem? ht
 have hall:([39].all fun u=> !Tryz.prog.wantsStandIn u)=true:=by kernel_rfl
 have:=List.all_eq_true.1 hall t hm;show Tryz.prog.wantsStandIn t=false;simpa using this
theorem treeKeeps.card:Rows.TreeKeepsUptoCardSaid:=
 Claim7.holds_tied_plain_at .later [] _ _ _ _ treeKeeps.said (fun _ h=>by cases h) (by as_aux_lemma=>kernel_rfl) (fun _ h=>by cases h) treeKeepsUpto_row_tie rfl ⟨rfl,rfl⟩ (by as_aux_lemma=>kernel_rfl) rfl treeKeeps.plain (by as_aux_lemma=>kernel_rfl)
end Go.Proofs.YtibcjfjacielbaaGreatDoor
