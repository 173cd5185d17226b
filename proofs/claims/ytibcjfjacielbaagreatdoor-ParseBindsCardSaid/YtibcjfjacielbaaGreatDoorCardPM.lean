import Derived.Test.YtibcjfjacielbaaGreatDoorP22
import Derived.Test.YtibcjfjacielbaaGreatDoorP50
import Derived.Test.YtibcjfjacielbaaGreatDoorCards
import Derived.Test.YtibcjfjacielbaaGreatDoorTie
import Derived.SevenTiedAt
/- weirlaw13.ParseBinds, at every input: the card. -/
set_option maxRecDepth 100000
set_option maxHeartbeats 4000000
set_option linter.unusedVariables false
set_option linter.unusedSimpArgs false
namespace Go.Proofs.YtibcjfjacielbaaGreatDoor
open Go.ChangeShapes Go.WideShapes Go.ChangeAt Go.RowKit
theorem parseBinds.laidOut:laidOutB Tryz.prog=true:=by kernel_rfl
theorem parseBinds.contract (H:Type) (enc:TypeId×Value→H) (W:World) (base:Nat) (args:Array Value) (ds gs:List (DataW H)) (before:List MemPlace)
  (hval: ∀(j:Nat) t v,Tryz.f13.params[j]? =some t→args[j]? =some v→Value.okWide Tryz.prog W .any base t v)
  (hW:DataW.Whole enc Tryz.prog Tryz.f13.params.toList Rows.parseBindsSpec.vars false W args.toList ds gs before) (hT:NumTabs W.heap.size W) (ho:OpsAt W):
  Calls Tryz.prog 13 args W fun e W'=> ∃v,e= .returned v∧Rows.parseBindsSpec.post enc Tryz.prog Tryz.f13 false true false false W args v W':=by
 have hW':=hW;obtain⟨p,q,hA0,hV,rfl,hfz,hnd⟩:=hW;have hA:DataW.TrodAll enc Tryz.prog W 0 (fun _=>true) true Tryz.f13.params.toList args.toList ds p:=hA0;rw[Tryz.params13]at hA hval;obtain⟨v0,v1,v2,d0,d1,d2,p0,p1,p2,rfl,rfl,rfl,h0,h1,h2⟩:=trodAll_three hA;obtain⟨rfl,rfl⟩:=trodVars_none hV;obtain⟨x,rfl,rfl,rfl,wx⟩:=open_int Tryz.underlying3 (hval 0 3 v0 rfl rfl) h0;obtain⟨y,rfl,rfl,rfl,wy⟩:=open_int Tryz.underlying3 (hval 1 3 v1 rfl rfl) h1;obtain⟨b,rfl,rfl,rfl⟩:=open_bool Tryz.underlying4 (hval 2 4 v2 rfl rfl) h2;refine(law_ParseBinds numT W x y b (bounds_i64 wx) (bounds_i64 wy) ho hT).mono ?_;rintro e W' ⟨rfl,hbel⟩;refine⟨_,rfl,_,_,_,[],[],[],by simpa using hW',?_,?_,?_,hbel.frame _,fun h=>by cases h⟩
 ·exact trodAll_mk1 (shut_bool Tryz.underlying4 _)
 ·exact trodAll_mk3 (shut_int Tryz.underlying3 wx) (shut_int Tryz.underlying3 wy) (shut_bool Tryz.underlying4 b)
 ·rfl
theorem parseBinds.lifted (os:Os) (started:os.Started) (H:Type) (enc:TypeId×Value→H) (F:Stop.Interp):
  ReturnsInHanded {} Tryz.checked os 13 .any ((OpenSpec.ofChange Rows.parseBindsSpec).preRow enc Tryz.prog Tryz.f13 Rows.parseBindsRow.domain false Rows.parseBindsRow.laid) (((OpenSpec.ofChange Rows.parseBindsSpec).at F).post enc Tryz.prog Tryz.f13 false true false false):=by
 have hx: ∃places,DataW.whole enc Tryz.prog ((World.laidAll Tryz.prog os laidB).forCall (fun _ _=>0) ⟨#[],#[.int .i64 0,.int .i64 0,.bool false],[]⟩).memory Tryz.f13.params.toList Rows.parseBindsSpec.vars false (#[.int .i64 0,.int .i64 0,.bool false]:Array Value).toList 8=some ([.lit (.int .i64 0),.lit (.int .i64 0),.lit (.bool false)],[],places):=⟨[],by as_aux_lemma=>kernel_rfl⟩;obtain⟨places,hx⟩:=hx;refine returnsInHanded_of_row (C:=Tryz.checked) (s:=OpenSpec.ofChange Rows.parseBindsSpec) own_knob started (by as_aux_lemma=>kernel_rfl) Tryz.func13
  (witnessB (enc:=enc) false #[.int .i64 0,.int .i64 0,.bool false] (by as_aux_lemma=>kernel_rfl) (OpenSpec.preRow_of_cond 8 hx (by as_aux_lemma=>kernel_rfl) (fun k hk=>by cases hk) (by as_aux_lemma=>kernel_rfl) (laidB_met os _))) ?_
 intro W base args ds gs before hval hW _ _ _ hL _ _;rw[MakeChecks.laidMetH_plain _ _ _ (by kernel_rfl)]at hL;have hB:laidMet Tryz.prog laidB W:=hL;exact parseBinds.contract H enc W base args ds gs before hval hW ⟨_,Nat.le_refl _,tabs_laid (by rw[MakeChecks.laidMetH_plain _ _ _ (by kernel_rfl)];exact laidMet_sub laidB_sub hB)⟩ (ops_laid hB)
theorem and2 {a b:Bool} (h1:a=true) (h2:b=true):(a&&b)=true:=by rw[h1,h2];rfl
theorem parseBinds.facts:joinedFacts Tryz.pinned.checked.prog 13 Tryz.f13 (OpenSpec.ofChange Rows.parseBindsSpec).bare Rows.parseBindsRow=true:=by
 unfold joinedFacts
 repeat' (with_reducible refine and2 ?_ ?_)
 all_goals (as_aux_lemma=>kernel_rfl)
theorem parseBinds.said:Rows.ParseBindsSaid:=
 OpenClaim.holds_of_cond 13 Tryz.f13 rfl rfl rfl rfl rfl rfl rfl ⟨rfl,rfl,rfl,rfl,rfl⟩ rfl rfl rfl rfl rfl (by as_aux_lemma=>kernel_rfl) Tryz.func13 parseBinds.facts
  (of_decide_eq_true (by as_aux_lemma=>kernel_rfl)) (by unfold Func.isWrapper;first|(rw[if_pos (by decide+kernel)];kernel_rfl)|(rw[if_neg (by decide+kernel)];exact⟨rfl,rfl⟩))
  (fun os started H enc _ F=>by rw[OpenClaim.pre_eq_preRow];exact parseBinds.lifted os started H enc F)
theorem parseBinds.plain (f:FuncId) (fn:Func) (hf:Tryz.pinned.checked.prog.funcNamed "weir/weirlaw13.ParseBinds" =some f) (hfn:Tryz.pinned.checked.prog.funcs[f]? =some fn):
  true=Tryz.pinned.checked.prog.looks []∧ ∀(j:Nat) t,fn.params[j]? =some t→Tryz.pinned.checked.prog.wantsStandIn t=false:=by
 obtain rfl:f=13:=Option.some.inj ((show Tryz.prog.funcNamed "weir/weirlaw13.ParseBinds" =some 13 by kernel_rfl).symm.trans hf) |>.symm;obtain rfl:fn=Tryz.f13:=(Option.some.inj (Tryz.func13.symm.trans hfn)).symm;refine⟨by kernel_rfl,fun j t ht=>?_⟩;rw[Tryz.params13]at ht;have hm:t∈[3,3,4]:=by simpa using Array.mem_of_getElem? ht
 have hall:([3,3,4].all fun u=> !Tryz.prog.wantsStandIn u)=true:=by kernel_rfl
 have:=List.all_eq_true.1 hall t hm;show Tryz.prog.wantsStandIn t=false;simpa using this
theorem parseBinds.card:Rows.ParseBindsCardSaid:=
 Claim7.holds_tied_plain_at .later [] _ _ _ _ parseBinds.said (fun _ h=>by cases h) (by as_aux_lemma=>kernel_rfl) (fun _ h=>by cases h) parseBinds_row_tie rfl ⟨rfl,rfl⟩ (by as_aux_lemma=>kernel_rfl) rfl parseBinds.plain (by as_aux_lemma=>kernel_rfl)
end Go.Proofs.YtibcjfjacielbaaGreatDoor
