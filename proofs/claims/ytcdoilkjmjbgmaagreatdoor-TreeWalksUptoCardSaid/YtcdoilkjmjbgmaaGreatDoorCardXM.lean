import Derived.Test.YtcdoilkjmjbgmaaGreatDoorW46
import Derived.Test.YtcdoilkjmjbgmaaGreatDoorW49
import Derived.Test.YtcdoilkjmjbgmaaGreatDoorW50
import Derived.Test.YtcdoilkjmjbgmaaGreatDoorCards
import Derived.Test.YtcdoilkjmjbgmaaGreatDoorTie
import Derived.SevenTiedAt
/- weirlaw12.TreeWalks, where what it reads is of bulk at most 1048576: the card. -/
set_option maxRecDepth 100000
set_option maxHeartbeats 4000000
set_option linter.unusedVariables false
set_option linter.unusedSimpArgs false
namespace Go.Proofs.YtcdoilkjmjbgmaaGreatDoor
open Go.ChangeShapes Go.WideShapes Go.ChangeAt Go.RowKit
open Go.Proofs.Tryz
variable {a b:Bool}
theorem treeWalks.laidOut:laidOutB prog=true:=by kernel_rfl
theorem treeWalks.contract (H:Type) (enc:TypeId×Value→H) (W:World) (base:Nat) (args:Array Value) (ds gs:List (DataW H)) (before:List MemPlace)
  (ll: ∀(j:Nat) t v,f3.params[j]? =some t→args[j]? =some v→Value.okWide prog W .any base t v)
  (hW:DataW.Whole enc prog f3.params.toList Rows.treeWalksSpec.vars false W args.toList ds gs before) (hk:Rows.uptoSmall H (ds++gs)=true) (hT:Pv W.heap.size W):
  Calls prog 3 args W fun e W'=> ∃v,e= .returned v∧Rows.treeWalksSpec.post enc prog f3 false true false false W args v W':=by
 have hW':=hW;obtain⟨p,q,hA0,hV,rfl,hfz,sX⟩:=hW;have hA:DataW.TrodAll enc prog W 0 (fun _=>true) true f3.params.toList args.toList ds p:=hA0;rw[params3]at hA ll;obtain⟨v0,v1,d0,d1,p0,p1,rfl,rfl,rfl,h0,h1⟩:=trodAll_two hA;obtain⟨rfl,rfl⟩:=trodVars_none hV;obtain⟨x,rfl,rfl,rfl,wx⟩:=open_int underlying3 (ll 1 3 v1 rfl rfl) h1;obtain⟨a0,atA,atC,rfl⟩:=okWide_slice underlying22 (ll 0 22 v0 rfl rfl);have h0k:=h0;obtain⟨f0,hf0⟩:=h0;obtain⟨a,ra,hca,hna,SU⟩:=RP hf0;have Lh:Rows.uptoBulkAll ([d0,.lit (.int .i64 x)]++([]:List (DataW H)))≤1048576:=nY hk;simp only[mu,Rows.uptoBulkAll]at Lh;simp only at hna SU;simp only[mu]at hW';have abz: ∀x∈p0,x.block<W.heap.size:=fun x hx=>by simpa using hW'.lt x hx
 refine(Eb alu W _ _ _ x a ⟨ra,hca⟩ (by omega) (fun r hr=>((SU r hr).up (by omega)).small) hT).mono ?_;rintro e W' ⟨rfl,bN⟩;refine⟨_,rfl,_,_,_,[],p0,[],by simpa using hW',?_,?_,?_,bN.frame _,fun h=>by cases h⟩
 ·exact trodAll_mk1 (shut_bool underlying4 _)
 ·have:=trodAll_mk2 (Below.trod treeWalks.laidOut (by kernel_rfl) (nY (by kernel_rfl)) h0k bN abz) (shut_int underlying3 wx);rw[List.append_nil]at this;exact this
 ·rfl
theorem treeWalks.lifted (os:Os) (started:os.Started) (H:Type) (enc:TypeId×Value→H) (F:Stop.Interp):
  ReturnsInHanded {} Tryz.checked os 3 .any ((Rows.OpenSpec.upto Rows.treeWalksSpec).preRow enc prog f3 Rows.treeWalksUptoRow.domain false Rows.treeWalksUptoRow.laid) (((Rows.OpenSpec.upto Rows.treeWalksSpec).at F).post enc prog f3 false true false false):=by
 have hx: ∃places,DataW.whole enc prog ((World.laidAll prog os iP).forCall (fun _ _=>0) ⟨#[],#[.slice none 0 0,.int .i64 0],[]⟩).memory f3.params.toList Rows.treeWalksSpec.vars false (#[.slice none 0 0,.int .i64 0]:Array Value).toList 8=some ([.nil,.lit (.int .i64 0)],[],places):=⟨[],by as_aux_lemma=>kernel_rfl⟩;obtain⟨places,hx⟩:=hx;refine returnsInHanded_of_row (C:=Tryz.checked) (s:=Rows.OpenSpec.upto Rows.treeWalksSpec) Ws started (by as_aux_lemma=>kernel_rfl) func3
  (witness (enc:=enc) false #[.slice none 0 0,.int .i64 0] (by as_aux_lemma=>kernel_rfl) (OpenSpec.preRow_of_cond 8 hx (by as_aux_lemma=>kernel_rfl) (fun k hk=>by cases hk;kernel_rfl) (by as_aux_lemma=>kernel_rfl) (Wu os _))) ?_
 intro W base args ds gs before ll hW _ hcond _ hL _ _;exact treeWalks.contract H enc W base args ds gs before ll hW (hcond _ rfl) ⟨_,aP _,R9 hL⟩
theorem and2 (h1:a=true) (h2:b=true):(a&&b)=true:=by rw[h1,h2];rfl
theorem treeWalks.facts:joinedFacts Tryz.pinned.checked.prog 3 f3 (Rows.OpenSpec.upto Rows.treeWalksSpec).bare Rows.treeWalksUptoRow=true:=by
 unfold joinedFacts
 repeat' (with_reducible refine and2 ?_ ?_)
 all_goals (as_aux_lemma=>kernel_rfl)
theorem treeWalks.said:Rows.TreeWalksUptoSaid:=
 OpenClaim.holds_of_cond 3 f3 rfl rfl rfl rfl rfl rfl rfl ⟨rfl,rfl,rfl,rfl,rfl⟩ rfl rfl rfl rfl rfl (by as_aux_lemma=>kernel_rfl) func3 treeWalks.facts
  (nY (by as_aux_lemma=>kernel_rfl)) (by unfold Func.isWrapper;first|(rw[ar (by decide+kernel)];kernel_rfl)|(rw[af (by decide+kernel)];exact⟨rfl,rfl⟩))
  (fun os started H enc _ F=>by rw[OpenClaim.pre_eq_preRow];exact treeWalks.lifted os started H enc F)
theorem treeWalks.plain (f:FuncId) (fn:Func) (hf:Tryz.pinned.checked.prog.funcNamed "weir/weirlaw12.TreeWalks" =some f) (hfn:Tryz.pinned.checked.prog.funcs[f]? =some fn):
  true=Tryz.pinned.checked.prog.looks []∧ ∀(j:Nat) t,fn.params[j]? =some t→Tryz.pinned.checked.prog.wantsStandIn t=false:=by
 obtain rfl:f=3:=yE ((show prog.funcNamed "weir/weirlaw12.TreeWalks" =some 3 by kernel_rfl).symm.trans hf) |>.symm;obtain rfl:fn=f3:=(yE (func3.symm.trans hfn)).symm;refine⟨by kernel_rfl,fun j t ht=>?_⟩;rw[params3]at ht;have hm:t∈[22,3]:=by simpa using Array.mem_of_getElem? ht
 have fF:([22,3].all fun u=> !prog.wantsStandIn u)=true:=by kernel_rfl
 have:=rl.1 fF t hm;show prog.wantsStandIn t=false;simpa using this
theorem treeWalks.card:Rows.TreeWalksUptoCardSaid:=
 Claim7.holds_tied_plain_at .later [] _ _ _ _ treeWalks.said (fun _ h=>by cases h) (by as_aux_lemma=>kernel_rfl) (fun _ h=>by cases h) treeWalksUpto_row_tie rfl ⟨rfl,rfl⟩ (by as_aux_lemma=>kernel_rfl) rfl treeWalks.plain (by as_aux_lemma=>kernel_rfl)
