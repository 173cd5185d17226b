import Derived.Test.YtcdoilkjmjbgmaaGreatDoorS50
import Derived.Test.YtcdoilkjmjbgmaaGreatDoorS46
import Derived.Test.YtcdoilkjmjbgmaaGreatDoorS49
import Derived.Test.YtcdoilkjmjbgmaaGreatDoorCards
import Derived.Test.YtcdoilkjmjbgmaaGreatDoorTie
import Derived.SevenTiedAt
/- weirlaw12.TreeSames, where what it reads is of bulk at most 1048576: the card. -/
set_option maxRecDepth 100000
set_option maxHeartbeats 4000000
set_option linter.unusedVariables false
set_option linter.unusedSimpArgs false
namespace Go.Proofs.YtcdoilkjmjbgmaaGreatDoor
open Go.ChangeShapes Go.WideShapes Go.ChangeAt Go.RowKit
open Go.Proofs.Tryz
variable {a b:Bool}
theorem treeSames.laidOut:laidOutB prog=true:=by kernel_rfl
theorem treeSames.contract (H:Type) (enc:TypeId×Value→H) (W:World) (base:Nat) (args:Array Value) (ds gs:List (DataW H)) (before:List MemPlace)
  (lq: ∀(j:Nat) t v,f5.params[j]? =some t→args[j]? =some v→Value.okWide prog W .any base t v)
  (hW:DataW.Whole enc prog f5.params.toList Rows.treeSamesSpec.vars false W args.toList ds gs before) (hk:Rows.uptoSmall H (ds++gs)=true) (hT:Pe W.heap.size W):
  Calls prog 5 args W fun e W'=> ∃v,e= .returned v∧Rows.treeSamesSpec.post enc prog f5 false true false false W args v W':=by
 have hW':=hW;obtain⟨p,q,hA0,hV,rfl,hfz,qM⟩:=hW;have hA:DataW.TrodAll enc prog W 0 (fun _=>true) true f5.params.toList args.toList ds p:=hA0;rw[params5]at hA lq;obtain⟨v0,v1,d0,d1,p0,p1,rfl,rfl,rfl,h0,h1⟩:=trodAll_two hA;obtain⟨rfl,rfl⟩:=trodVars_none hV;obtain⟨a0,arL,arM,rfl⟩:=okWide_slice underlying22 (lq 0 22 v0 rfl rfl);obtain⟨a1,arN,ajR,rfl⟩:=okWide_slice underlying22 (lq 1 22 v1 rfl rfl);have h0k:=h0;have h1k:=h1;obtain⟨f0,hf0⟩:=h0;obtain⟨f1,hf1⟩:=h1;obtain⟨a,ra,hca,hna,SK⟩:=Fs hf0;obtain⟨b,rb,hcb,uQ,hsb⟩:=Fs hf1;have Lh:Rows.uptoBulkAll ([d0,d1]++([]:List (DataW H)))≤1048576:=mR hk;simp only[nR,Rows.uptoBulkAll]at Lh;simp only at hna uQ SK hsb;simp only[nR]at hW';have abf: ∀x∈p0,x.block<W.heap.size:=fun x hx=>by simpa using hW'.lt x (List.mem_append_left _ hx)
 have XK: ∀x∈p1,x.block<W.heap.size:=fun x hx=>by simpa using hW'.lt x (List.mem_append_right _ hx)
 refine(DZ akF W _ _ _ _ _ _ a b ⟨ra,hca⟩ ⟨rb,hcb⟩ (by omega) (by omega) (fun r hr=>((SK r hr).up (by omega)).small) (fun r hr=>((hsb r hr).up (by omega)).small) hT).mono ?_;rintro e W' ⟨rfl,bO⟩;refine⟨_,rfl,_,_,_,[],p0++p1,[],by simpa using hW',?_,?_,?_,bO.frame _,fun h=>by cases h⟩
 ·exact trodAll_mk1 (shut_bool underlying4 _)
 ·exact trodAll_mk2 (Below.trod treeSames.laidOut (by kernel_rfl) (mR (by kernel_rfl)) h0k bO abf) (Below.trod treeSames.laidOut (by kernel_rfl) (mR (by kernel_rfl)) h1k bO XK)
 ·rfl
theorem treeSames.lifted (os:Os) (started:os.Started) (H:Type) (enc:TypeId×Value→H) (F:Stop.Interp):
  ReturnsInHanded {} Tryz.checked os 5 .any ((Rows.OpenSpec.upto Rows.treeSamesSpec).preRow enc prog f5 Rows.treeSamesUptoRow.domain false Rows.treeSamesUptoRow.laid) (((Rows.OpenSpec.upto Rows.treeSamesSpec).at F).post enc prog f5 false true false false):=by
 have hx: ∃places,DataW.whole enc prog ((World.laidAll prog os iG).forCall (fun _ _=>0) ⟨#[],#[.slice none 0 0,.slice none 0 0],[]⟩).memory f5.params.toList Rows.treeSamesSpec.vars false (#[.slice none 0 0,.slice none 0 0]:Array Value).toList 8=some ([.nil,.nil],[],places):=⟨[],by as_aux_lemma=>kernel_rfl⟩;obtain⟨places,hx⟩:=hx;refine returnsInHanded_of_row (C:=Tryz.checked) (s:=Rows.OpenSpec.upto Rows.treeSamesSpec) Wh started (by as_aux_lemma=>kernel_rfl) func5
  (witness (enc:=enc) false #[.slice none 0 0,.slice none 0 0] (by as_aux_lemma=>kernel_rfl) (OpenSpec.preRow_of_cond 8 hx (by as_aux_lemma=>kernel_rfl) (fun k hk=>by cases hk;kernel_rfl) (by as_aux_lemma=>kernel_rfl) (Wj os _))) ?_
 intro W base args ds gs before lq hW _ hcond _ hL _ _;exact treeSames.contract H enc W base args ds gs before lq hW (hcond _ rfl) ⟨_,aS _,RM hL⟩
theorem and2 (h1:a=true) (h2:b=true):(a&&b)=true:=by rw[h1,h2];rfl
theorem treeSames.facts:joinedFacts Tryz.pinned.checked.prog 5 f5 (Rows.OpenSpec.upto Rows.treeSamesSpec).bare Rows.treeSamesUptoRow=true:=by
 unfold joinedFacts
 repeat' (with_reducible refine and2 ?_ ?_)
 all_goals (as_aux_lemma=>kernel_rfl)
theorem treeSames.said:Rows.TreeSamesUptoSaid:=
 OpenClaim.holds_of_cond 5 f5 rfl rfl rfl rfl rfl rfl rfl ⟨rfl,rfl,rfl,rfl,rfl⟩ rfl rfl rfl rfl rfl (by as_aux_lemma=>kernel_rfl) func5 treeSames.facts
  (mR (by as_aux_lemma=>kernel_rfl)) (by unfold Func.isWrapper;first|(rw[az (by decide+kernel)];kernel_rfl)|(rw[ah (by decide+kernel)];exact⟨rfl,rfl⟩))
  (fun os started H enc _ F=>by rw[OpenClaim.pre_eq_preRow];exact treeSames.lifted os started H enc F)
theorem treeSames.plain (f:FuncId) (fn:Func) (hf:Tryz.pinned.checked.prog.funcNamed "weir/weirlaw12.TreeSames" =some f) (hfn:Tryz.pinned.checked.prog.funcs[f]? =some fn):
  true=Tryz.pinned.checked.prog.looks []∧ ∀(j:Nat) t,fn.params[j]? =some t→Tryz.pinned.checked.prog.wantsStandIn t=false:=by
 obtain rfl:f=5:=yy ((show prog.funcNamed "weir/weirlaw12.TreeSames" =some 5 by kernel_rfl).symm.trans hf) |>.symm;obtain rfl:fn=f5:=(yy (func5.symm.trans hfn)).symm;refine⟨by kernel_rfl,fun j t ht=>?_⟩;rw[params5]at ht;have hm:t∈[22,22]:=by simpa using Array.mem_of_getElem? ht
 have fH:([22,22].all fun u=> !prog.wantsStandIn u)=true:=by kernel_rfl
 have:=qS.1 fH t hm;show prog.wantsStandIn t=false;simpa using this
theorem treeSames.card:Rows.TreeSamesUptoCardSaid:=
 Claim7.holds_tied_plain_at .later [] _ _ _ _ treeSames.said (fun _ h=>by cases h) (by as_aux_lemma=>kernel_rfl) (fun _ h=>by cases h) treeSamesUpto_row_tie rfl ⟨rfl,rfl⟩ (by as_aux_lemma=>kernel_rfl) rfl treeSames.plain (by as_aux_lemma=>kernel_rfl)
