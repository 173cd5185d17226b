import Derived.Test.YtcdoilkjmjbgmaaGreatDoorR46
import Derived.Test.YtcdoilkjmjbgmaaGreatDoorR49
import Derived.Test.YtcdoilkjmjbgmaaGreatDoorR50
import Derived.Test.YtcdoilkjmjbgmaaGreatDoorCards
import Derived.Test.YtcdoilkjmjbgmaaGreatDoorTie
import Derived.SevenTiedAt
/- weirlaw12.TreeBuilds, where what it reads is of bulk at most 1048576: the card. -/
set_option maxRecDepth 100000
set_option maxHeartbeats 4000000
set_option linter.unusedVariables false
set_option linter.unusedSimpArgs false
namespace Go.Proofs.YtcdoilkjmjbgmaaGreatDoor
open Go.ChangeShapes Go.WideShapes Go.ChangeAt Go.RowKit
open Go.Proofs.Tryz
variable {a b:Bool}
theorem treeBuilds.laidOut:laidOutB prog=true:=by kernel_rfl
theorem treeBuilds.contract (H:Type) (enc:TypeId×Value→H) (W:World) (base:Nat) (args:Array Value) (ds gs:List (DataW H)) (before:List MemPlace)
  (lT: ∀(j:Nat) t v,f4.params[j]? =some t→args[j]? =some v→Value.okWide prog W .any base t v)
  (hW:DataW.Whole enc prog f4.params.toList Rows.treeBuildsSpec.vars false W args.toList ds gs before) (hk:Rows.uptoSmall H (ds++gs)=true) (hT:PC W.heap.size W):
  Calls prog 4 args W fun e W'=> ∃v,e= .returned v∧Rows.treeBuildsSpec.post enc prog f4 false true false false W args v W':=by
 have hW':=hW;obtain⟨p,q,hA0,hV,rfl,hfz,rb⟩:=hW;have hA:DataW.TrodAll enc prog W 0 (fun _=>true) true f4.params.toList args.toList ds p:=hA0;rw[params4]at hA lT;obtain⟨v0,d0,rfl,rfl,h0⟩:=trodAll_one hA;obtain⟨rfl,rfl⟩:=trodVars_none hV;obtain⟨a0,asb,asc,rfl⟩:=okWide_slice underlying22 (lT 0 22 v0 rfl rfl);have h0k:=h0;obtain⟨f0,hf0⟩:=h0;obtain⟨a,ra,hca,hna,SP⟩:=RY hf0;have LC:Rows.uptoBulkAll ([d0]++([]:List (DataW H)))≤1048576:=nT hk;simp only[mz,Rows.uptoBulkAll]at LC;simp only at hna SP;simp only[mz]at hW';have ab2: ∀x∈p,x.block<W.heap.size:=fun x hx=>by simpa using hW'.lt x hx
 refine(DA akl W _ _ _ a ⟨ra,hca⟩ (by omega) (fun r hr=>((SP r hr).up (by omega)).small) hT).mono ?_;rintro e W' ⟨rfl,bQ⟩;refine⟨_,rfl,_,_,_,[],p,[],by simpa using hW',?_,?_,?_,bQ.frame _,fun h=>by cases h⟩
 ·exact trodAll_mk1 (shut_bool underlying4 _)
 ·exact trodAll_mk1 (Below.trod treeBuilds.laidOut (by kernel_rfl) (nT (by kernel_rfl)) h0k bQ ab2)
 ·rfl
theorem treeBuilds.lifted (os:Os) (started:os.Started) (H:Type) (enc:TypeId×Value→H) (F:Stop.Interp):
  ReturnsInHanded {} Tryz.checked os 4 .any ((Rows.OpenSpec.upto Rows.treeBuildsSpec).preRow enc prog f4 Rows.treeBuildsUptoRow.domain false Rows.treeBuildsUptoRow.laid) (((Rows.OpenSpec.upto Rows.treeBuildsSpec).at F).post enc prog f4 false true false false):=by
 have hx: ∃places,DataW.whole enc prog ((World.laidAll prog os iQ).forCall (fun _ _=>0) ⟨#[],#[.slice none 0 0],[]⟩).memory f4.params.toList Rows.treeBuildsSpec.vars false (#[.slice none 0 0]:Array Value).toList 8=some ([.nil],[],places):=⟨[],by as_aux_lemma=>kernel_rfl⟩;obtain⟨places,hx⟩:=hx;refine returnsInHanded_of_row (C:=Tryz.checked) (s:=Rows.OpenSpec.upto Rows.treeBuildsSpec) We started (by as_aux_lemma=>kernel_rfl) func4
  (witness (enc:=enc) false #[.slice none 0 0] (by as_aux_lemma=>kernel_rfl) (OpenSpec.preRow_of_cond 8 hx (by as_aux_lemma=>kernel_rfl) (fun k hk=>by cases hk;kernel_rfl) (by as_aux_lemma=>kernel_rfl) (Wg os _))) ?_
 intro W base args ds gs before lT hW _ hcond _ hL _ _;exact treeBuilds.contract H enc W base args ds gs before lT hW (hcond _ rfl) ⟨_,aS _,Sc hL⟩
theorem and2 (h1:a=true) (h2:b=true):(a&&b)=true:=by rw[h1,h2];rfl
theorem treeBuilds.facts:joinedFacts Tryz.pinned.checked.prog 4 f4 (Rows.OpenSpec.upto Rows.treeBuildsSpec).bare Rows.treeBuildsUptoRow=true:=by
 unfold joinedFacts
 repeat' (with_reducible refine and2 ?_ ?_)
 all_goals (as_aux_lemma=>kernel_rfl)
theorem treeBuilds.said:Rows.TreeBuildsUptoSaid:=
 OpenClaim.holds_of_cond 4 f4 rfl rfl rfl rfl rfl rfl rfl ⟨rfl,rfl,rfl,rfl,rfl⟩ rfl rfl rfl rfl rfl (by as_aux_lemma=>kernel_rfl) func4 treeBuilds.facts
  (nT (by as_aux_lemma=>kernel_rfl)) (by unfold Func.isWrapper;first|(rw[au (by decide+kernel)];kernel_rfl)|(rw[af (by decide+kernel)];exact⟨rfl,rfl⟩))
  (fun os started H enc _ F=>by rw[OpenClaim.pre_eq_preRow];exact treeBuilds.lifted os started H enc F)
theorem treeBuilds.plain (f:FuncId) (fn:Func) (hf:Tryz.pinned.checked.prog.funcNamed "weir/weirlaw12.TreeBuilds" =some f) (hfn:Tryz.pinned.checked.prog.funcs[f]? =some fn):
  true=Tryz.pinned.checked.prog.looks []∧ ∀(j:Nat) t,fn.params[j]? =some t→Tryz.pinned.checked.prog.wantsStandIn t=false:=by
 obtain rfl:f=4:=yR ((show prog.funcNamed "weir/weirlaw12.TreeBuilds" =some 4 by kernel_rfl).symm.trans hf) |>.symm;obtain rfl:fn=f4:=(yR (func4.symm.trans hfn)).symm;refine⟨by kernel_rfl,fun j t ht=>?_⟩;rw[params4]at ht;have hm:t∈[22]:=by simpa using Array.mem_of_getElem? ht
 have fO:([22].all fun u=> !prog.wantsStandIn u)=true:=by kernel_rfl
 have:=rq.1 fO t hm;show prog.wantsStandIn t=false;simpa using this
theorem treeBuilds.card:Rows.TreeBuildsUptoCardSaid:=
 Claim7.holds_tied_plain_at .later [] _ _ _ _ treeBuilds.said (fun _ h=>by cases h) (by as_aux_lemma=>kernel_rfl) (fun _ h=>by cases h) treeBuildsUpto_row_tie rfl ⟨rfl,rfl⟩ (by as_aux_lemma=>kernel_rfl) rfl treeBuilds.plain (by as_aux_lemma=>kernel_rfl)
