import Derived.Test.YtibcjfjacielbaaGreatDoorP23
import Derived.Test.YtibcjfjacielbaaGreatDoorP49
/- Part of the proof of YtibcjfjacielbaaGreatDoorCardP: LayB. -/
set_option maxRecDepth 100000
set_option maxHeartbeats 4000000
set_option linter.unusedVariables false
set_option linter.unusedSimpArgs false
namespace Go.Proofs.YtibcjfjacielbaaGreatDoor
open Go.ChangeShapes Go.WideShapes Go.ChangeAt Go.RowKit
def laidB:List (String×DataW Unit):=laidL.take 11++("weir/weirlaw13.ops",Rows.laid_weir_weirlaw13_ops)::laidL.drop 11
theorem laidVars_sub {P : Program} {w : World} : ∀ {l l' : List (String × DataW Unit)}, l'.Sublist l → ∀ {ps : List MemPlace}, DataW.LaidVars P w l ps → ∃ ps', DataW.LaidVars P w l' ps' ∧ ps'.Sublist ps
  | _, _, .slnil, ps, h => ⟨ps, h, List.Sublist.refl _⟩
  | _, _, .cons _ hs, ps, h => by
    obtain⟨g,t,cs,fuel,p,q,h1,h2,h3,h4,h5,rfl⟩:=h
    obtain⟨ps',k1,k2⟩:=laidVars_sub hs h5
    exact⟨ps',k1,k2.trans (List.sublist_append_right _ _)⟩
  | _, _, .cons_cons _ hs, ps, h => by
    obtain⟨g,t,cs,fuel,p,q,h1,h2,h3,h4,h5,rfl⟩:=h
    obtain⟨ps',k1,k2⟩:=laidVars_sub hs h5
    exact⟨_,⟨g,t,cs,fuel,p,ps',h1,h2,h3,h4,k1,rfl⟩,(List.Sublist.refl _).append k2⟩
theorem laidMet_sub {P:Program} {w:World} {l l':List (String×DataW Unit)} (hs:l'.Sublist l) (h:laidMet P l w):laidMet P l' w:=by
 obtain⟨ps,h1,h2,h3⟩:=h;obtain⟨ps',k1,k2⟩:=laidVars_sub hs h1;exact⟨ps',k1,h2.sublist k2,fun b off hb=>h3 b off (k2.subset hb)⟩
theorem laidB_sub:laidL.Sublist laidB:=by
 have h:laidL=laidL.take 11++laidL.drop 11:=(List.take_append_drop 11 laidL).symm;unfold laidB
 conv=>lhs;rw[h]
 exact(List.Sublist.refl _).append (List.sublist_cons_self _ _)
theorem ops_laid {W:World} (h:laidMet Tryz.prog laidB W):OpsAt W:=by
 obtain⟨cs,fuel,p,hc,hd,hb⟩:=laid_at h (n:= "weir/weirlaw13.ops") (d:=Rows.laid_weir_weirlaw13_ops) (List.mem_append_right _ (.head _)) (g:=0) (t:=86) (by kernel_rfl) (by kernel_rfl);obtain⟨xs,m,_,hx,hl,hxl,hall⟩:=DataW.trod_array Tryz.underlying86 hd;have hm:xs.map (·.1)=opsL.map (fun l=>(.lit (.string l):DataW Unit)):=(DataW.agg.inj (Prod.mk.inj hx).1).symm;have hcs:Tryz.prog.cellsOf 9=1:=by kernel_rfl
 have hcell: ∀i,i<15→W.cell? ⟨0,i,none⟩=some (.string ⟨(opAt i).toArray⟩):=by
  intro i hi;have hio:i<opsL.length:=hi;obtain⟨x,e,y⟩:=map_get hm (i:=i) (y:=.lit (.string (opAt i))) (by rw[List.getElem?_map,List.getElem?_eq_getElem hio,opAt,List.getD_eq_getElem?_getD,List.getElem?_eq_getElem hio];rfl);have h0:=hall i hi;rw[e]at h0;have:=str_field (off:=i*Tryz.prog.cellsOf 9) Tryz.underlying9 hcs h0 y;rw[hcs,Nat.mul_one]at this;rw[hc i];simpa using this
 exact⟨hcell,(cell_lt (hcell 0 (by decide))).1⟩
set_option maxRecDepth 1000000 in
theorem layB_fits (os:Os):(World.holding Tryz.prog os ⟨#[],#[],[]⟩).layFits Tryz.prog laidB []=true:=by kernel_rfl
set_option maxRecDepth 1000000 in
theorem layB_ifaces (os:Os):(World.holding Tryz.prog os ⟨#[],#[],[]⟩).layIfaces Tryz.prog laidB (World.laidAll Tryz.prog os laidB)=true:=by kernel_rfl
theorem laidB_met (os:Os) (args:Array Value):laidMet Tryz.prog laidB ((World.laidAll Tryz.prog os laidB).forCall (fun _ _=>0) ⟨#[],args,[]⟩).memory:=
 laidMet_laidAll args (layB_fits os) (layB_ifaces os)
set_option maxRecDepth 1000000 in
theorem zipB_ok (os:Os) (args:Array Value):((World.laidAll Tryz.prog os laidB).forCall (fun _ _=>0) ⟨#[],args,[]⟩).variablesZipB Tryz.prog=true:=by kernel_rfl
set_option maxRecDepth 1000000 in
theorem restB_ok (os:Os) (args:Array Value):(((World.laidAll Tryz.prog os laidB).forCall (fun _ _=>0) ⟨#[],args,[]⟩).heap.toList.drop Tryz.prog.globals.size).take ((begin Tryz.prog (fun _ _=>0) default).world.heap.size-Tryz.prog.globals.size)=
   (begin Tryz.prog (fun _ _=>0) default).world.heap.toList.drop Tryz.prog.globals.size:=by kernel_rfl
theorem shapedB (os:Os) (args:Array Value):((World.laidAll Tryz.prog os laidB).forCall (fun _ _=>0) ⟨#[],args,[]⟩).Shaped Tryz.prog:=World.shaped_of_ZipB (zipB_ok os args) (restB_ok os args)
section
variable {H:Type} {enc:TypeId×Value→H}
theorem witnessB {os:Os} {f:FuncId} {fn:Func} {s:OpenSpec} {conds:List PathCond} {apart:Bool} {laid:List (String×DataW Unit)} (modest:Bool) (args:Array Value)
  (hok:Input.okWideB Tryz.prog ((World.laidAll Tryz.prog os laidB).forCall (fun _ _=>0) ⟨#[],args,[]⟩) f ⟨#[],args,[]⟩=true)
  (hrow:s.preRow enc Tryz.prog fn conds apart laid ((World.laidAll Tryz.prog os laidB).forCall (fun _ _=>0) ⟨#[],args,[]⟩).memory args):
  ∃(w:World) (tape:Tape) (i:Input),w.os=os∧(w.forCall tape i).Shaped Tryz.prog∧i.vars=[]∧Input.okWide Tryz.prog (w.forCall tape i) .any w.heap.size f i∧
   s.preRow enc Tryz.prog fn conds apart laid (w.forCall tape i).memory i.args∧({modest:=modest}:Assume).holds Tryz.prog (lone (Frame.enter Tryz.prog f i.args .normal) [] (w.forCall tape i)):=
 ⟨World.laidAll Tryz.prog os laidB,fun _ _=>0,⟨#[],args,[]⟩,World.laidAll_os _ _ _,shapedB os args,(Input.okWide_of_okWideB (base:=0) hok).1,(Input.okWide_of_okWideB hok).2,hrow,by
  simp only[Assume.holds];exact⟨by simp,by simp,fun _=>Modest.zero,by simp,by simp⟩⟩
end
end Go.Proofs.YtibcjfjacielbaaGreatDoor
