import Derived.Test.YtcdoilkjmjbgmaaGreatDoorRows
import Derived.Lay
import Derived.ProofKit
import Derived.OpenShut
import Derived.Deep.DeepHandedRow
import Derived.Shelf.Strings.Builder1
import Derived.Shelf.Small.Strs
import Derived.Shelf.Strings.Search1
import Derived.Shelf.Strings.Search2
import Derived.Shelf.Strings.Search3
import Derived.Lib.IndexAny
import Derived.Lib.LaidU8
import Derived.MakeChecks
import Derived.Test.YtcdoilkjmjbgmaaGreatDoorR48
/- Part of the proof of YtcdoilkjmjbgmaaGreatDoorCardR: World TabA TabB. -/
set_option maxRecDepth 100000
set_option maxHeartbeats 4000000
set_option linter.unusedVariables false
set_option linter.unusedSimpArgs false
namespace Go.Proofs.YtcdoilkjmjbgmaaGreatDoor
open Go.ChangeShapes Go.WideShapes Go.ChangeAt Go.RowKit
open Go.Proofs.Tryz
variable {apart:Bool}
theorem We:ownKnob prog.godebug=none:=by kernel_rfl
def iQ:List (String×DataW Unit):=[("math/bits.deBruijn32tab",Rows.laid_math_bits_deBruijn32tab),("math/bits.deBruijn64tab",Rows.laid_math_bits_deBruijn64tab),("internal/strconv.float32info",Rows.laid_internal_strconv_float32info),("internal/strconv.float64info",Rows.laid_internal_strconv_float64info),("internal/strconv.optimize",Rows.laid_internal_strconv_optimize),("internal/strconv.powtab",Rows.laid_internal_strconv_powtab),("internal/strconv.float64pow10",Rows.laid_internal_strconv_float64pow10),("internal/strconv.float32pow10",Rows.laid_internal_strconv_float32pow10),("internal/strconv.uint64pow10",Rows.laid_internal_strconv_uint64pow10),("strconv.ErrRange",Rows.laid_strconv_ErrRange),("strconv.ErrSyntax",Rows.laid_strconv_ErrSyntax),("internal/strconv.leftcheats",Rows.laid_internal_strconv_leftcheats),("internal/strconv.pow10Tab",Rows.laid_internal_strconv_pow10Tab)]
set_option maxRecDepth 1000000 in
theorem Wf (os:Os):(World.holding prog os ⟨#[],#[],[]⟩).layFits prog iQ []=true:=by kernel_rfl
set_option maxRecDepth 1000000 in
theorem Od (os:Os):(World.holding prog os ⟨#[],#[],[]⟩).layIfaces prog iQ (World.laidAll prog os iQ)=true:=by kernel_rfl
theorem Wg (os:Os) (args:Array Value):laidMet prog iQ ((World.laidAll prog os iQ).forCall (fun _ _=>0) ⟨#[],args,[]⟩).memory:=
 laidMet_laidAll args (Wf os) (Od os)
set_option maxRecDepth 1000000 in
theorem aco (os:Os) (args:Array Value):((World.laidAll prog os iQ).forCall (fun _ _=>0) ⟨#[],args,[]⟩).variablesZipB prog=true:=by kernel_rfl
set_option maxRecDepth 1000000 in
theorem Zf (os:Os) (args:Array Value):(((World.laidAll prog os iQ).forCall (fun _ _=>0) ⟨#[],args,[]⟩).heap.toList.drop prog.globals.size).take ((begin prog (fun _ _=>0) default).world.heap.size-prog.globals.size)=
   (begin prog (fun _ _=>0) default).world.heap.toList.drop prog.globals.size:=by kernel_rfl
theorem shaped (os:Os) (args:Array Value):((World.laidAll prog os iQ).forCall (fun _ _=>0) ⟨#[],args,[]⟩).Shaped prog:=World.shaped_of_ZipB (aco os args) (Zf os args)
section
variable {H:Type} {enc:TypeId×Value→H}
theorem witness {os:Os} {f:FuncId} {fn:Func} {s:OpenSpec} {conds:List PathCond} {laid:List (String×DataW Unit)} (modest:Bool) (args:Array Value)
  (cJ:Input.okWideB prog ((World.laidAll prog os iQ).forCall (fun _ _=>0) ⟨#[],args,[]⟩) f ⟨#[],args,[]⟩=true)
  (Qm:s.preRow enc prog fn conds apart laid ((World.laidAll prog os iQ).forCall (fun _ _=>0) ⟨#[],args,[]⟩).memory args):
  ∃(w:World) (tape:Tape) (i:Input),w.os=os∧(w.forCall tape i).Shaped prog∧i.vars=[]∧Input.okWide prog (w.forCall tape i) .any w.heap.size f i∧
   s.preRow enc prog fn conds apart laid (w.forCall tape i).memory i.args∧({modest:=modest}:Assume).holds prog (lone (Frame.enter prog f i.args .normal) [] (w.forCall tape i)):=
 ⟨World.laidAll prog os iQ,fun _ _=>0,⟨#[],args,[]⟩,World.laidAll_os _ _ _,shaped os args,(Input.okWide_of_okWideB (base:=0) cJ).1,(Input.okWide_of_okWideB cJ).2,Qm,by
  simp only[Assume.holds];exact⟨by simp,by simp,fun _=>Modest.zero,by simp,by simp⟩⟩
end
end Go.Proofs.YtcdoilkjmjbgmaaGreatDoor
namespace Go.Proofs.YtcdoilkjmjbgmaaGreatDoor
open Go.RowKit Go.ChangeShapes Go.WideShapes
open Go.Proofs.Tryz
variable {l cs:List Value} {i off n k fuel base:Nat} {v:Value} {z:Int} {a:Addr} {e t:TypeId} {P:Program} {w:World} {held:Bool}
section
variable {P:Program} {w:World}
theorem zP: ∀{l:List (String×DataW Unit)} {ps:List MemPlace},DataW.LaidVars P w l ps→ ∀n d,(n,d)∈l→
  ∃g t cs fuel p,P.globalNamed n=some g∧(P.globals[g]?).map (·.type)=some t∧w.var? P n=some cs∧DataW.trod (fun _=>()) P w 0 (fun _=>true) false fuel t cs.toList=some (d,p)∧ ∀off,off<cs.size→MemPlace.cell g off∈ps
 |[],_,_,_,_,hm=>by cases hm
 |(n',d')::r,ps,h,n,d,hm=>by
  obtain⟨g,t,cs,fuel,p,q,h1,h2,h3,h4,h5,h6⟩:=h;rcases gB.1 hm with e|e
  ·cases e;refine⟨g,t,cs,fuel,p,h1,h2,h3,h4,fun off ho=>?_⟩;rw[h6];refine List.mem_append_left _ (List.mem_append_left _ ?_);rw[MemPlace.row,tS];exact⟨off,qy.2 ho,by simp⟩
  ·obtain⟨g',t',ω,aga,p',k1,k2,k3,k4,k5⟩:=zP h5 n d e;exact⟨g',t',ω,aga,p',k1,k2,k3,k4,fun off ho=>by rw[h6];exact List.mem_append_right _ (k5 off ho)⟩
theorem sQ {l:List (String×DataW Unit)} (h:laidMet P l w) {n:String} {d:DataW Unit} (hm:(n,d)∈l) {g:Nat} {t:TypeId} (hg:P.globalNamed n=some g) (ht:(P.globals[g]?).map (·.type)=some t):
  ∃(cs:Array Value) (fuel:Nat) (p:List MemPlace),(∀i,w.cell? ⟨g,i,none⟩=cs[i]?)∧DataW.trod (fun _=>()) P w 0 (fun _=>true) false fuel t cs.toList=some (d,p)∧ ∀off,off<cs.size→ ∃c t',w.heap[g]? =some (.cells c t' (0,0)):=by
 obtain⟨ps,hv,_,jl⟩:=h;obtain⟨g',t',cs,fuel,p,h1,h2,h3,h4,h5⟩:=zP hv n d hm;obtain rfl:=yR (hg.symm.trans h1);obtain rfl:=yR (ht.symm.trans h2);exact⟨cs,fuel,p,fun i=>World.var?_cell hg h3 i,h4,fun off ho=>(jl g off (h5 off ho)).1⟩
variable {fuel:Nat} {t:TypeId} {cs:List Value} {p:List MemPlace} {base:Nat} {sp:Nat→Bool} {held:Bool}
theorem Lq {k:FloatKind} {x:DataW Unit×List MemPlace} (ht:P.underlying t=some (.float k)) (h:DataW.trod (fun _=>()) P w base sp held fuel t cs=some x): ∃n,cs=[.float k n]∧x=(.lit (.float k n),[]):=by
 cases fuel with
 |zero=>simp[DataW.trod]at h
 |succ n=>
  unfold DataW.trod at h;rw[ht]at h;split at h<;>simp_all
theorem uu (h:(l.drop i).take 1=[v]):l[i]? =some v:=by
 have h0:((l.drop i).take 1)[0]? =some v:=by rw[h];rfl
 simpa using h0
theorem mw {k:IntKind} {x:DataW Unit×List MemPlace} (hu:P.underlying t=some (.int k)) (hc:P.cellsOf t=1) (h:DataW.trod (fun _=>()) P w base sp held fuel t ((cs.drop off).take (P.cellsOf t))=some x) (hx:x.1= .lit (.int k z)):cs[off]? =some (.int k z):=by
 rw[hc]at h;obtain⟨n,h1,h2,_⟩:=EG hu h;rw[h2]at hx;simp only[Jc,Lit.int.injEq,vZ]at hx;subst hx;exact uu h1
theorem R9 {x:DataW Unit×List MemPlace} {z:List UInt8} (hu:P.underlying t=some .string) (hc:P.cellsOf t=1) (h:DataW.trod (fun _=>()) P w base sp held fuel t ((cs.drop off).take (P.cellsOf t))=some x) (hx:x.1= .lit (.string z)):cs[off]? =some (.string ⟨z.toArray⟩):=by
 rw[hc]at h;obtain⟨s,h1,h2,_⟩:=vT hu h;rw[h2]at hx;simp only[Jc,Lit.string.injEq]at hx;subst hx;rw[uu h1]
theorem addr_add (b o i:Nat):(⟨b,o,none⟩:Addr).add i=⟨b,o+i,none⟩:=by
 unfold Addr.add;split
 ·rename_i h;subst h;rfl
 ·rfl
theorem nE (h:w.cell? a=some v):a.block<w.heap.size∧a.spot=none:=by
 unfold World.cell? at h;constructor
 ·rcases dF a.block w.heap.size with h1|h1
  ·exact h1
  ·rw[Be h1]at h;cases h
 ·split at h
  ·split at h
   ·cases h
   ·rename_i h2;simpa using h2
  ·cases h
theorem Wh {es:List (DataW Unit)} (ht:P.underlying t=some (.slice e)) (bZ:0<es.length) (S7:0<P.cellsOf e) (h:DataW.trod (fun _=>()) P w 0 (fun _=>true) false fuel t cs=some (.slice es [],p)):
  ∃b o m,cs=[.slice (some ⟨b,o,none⟩) es.length es.length]∧b<w.heap.size∧ ∀i d,es[i]? =some d→ ∃c' q,w.cells? 0 ⟨b,o+i*P.cellsOf e,none⟩ (P.cellsOf e)=some c'∧DataW.trod (fun _=>()) P w 0 (fun _=>true) false m e c'=some (d,q):=by
 rcases DataW.trod_slice ht h with⟨_,hx⟩|⟨a,len,cap,elems,rest,n,_,bh,hx,_,hlc,_,Og,fO,oD,_⟩
 ·cases hx
 ·simp only[vV,DataW.slice.injEq]at hx;obtain⟨⟨he,hr⟩,_⟩:=hx;have hr0:rest=[]:=by
   have:=hr.symm;simpa using this
  have uH:cap=len:=by
   have:=(oD rfl).1;rw[hr0]at this;simp at this;omega
  have hlen:es.length=len:=by rw[he,jW,Og]
  have afo: ∀i d,es[i]? =some d→ ∃c' q,w.cells? 0 (a.add (i*P.cellsOf e)) (P.cellsOf e)=some c'∧DataW.trod (fun _=>()) P w 0 (fun _=>true) false n e c'=some (d,q):=by
   intro i d hd;have hi:i<len:=by
    rcases dF i len with h1|h1
    ·exact h1
    ·rw[Ew (by omega)]at hd;cases hd
   have h1:=fO i hi;rw[he,I5]at hd;obtain⟨x,lC,mx⟩:=xC.1 hd;rw[lC]at h1;obtain⟨c',h2,h3⟩:=OA.1 h1;exact⟨c',x.2,h2,by rw[h3,←mx]⟩
  obtain⟨d0,Xd⟩: ∃d0,es[0]? =some d0:=⟨es[0],eG bZ⟩;obtain⟨c0,q0,k1,_⟩:=afo 0 d0 Xd;have k2:=(ED k1).2.2 0 S7;have ng: ∃v,w.cell? a=some v:=by
   have hl:=(ED k1).2.1;rw[yT]at k2;have e1:(a.add 0).add 0=a:=rfl;rw[e1]at k2;rw[k2];exact⟨c0[0]'(by omega),eG (by omega)⟩
  obtain⟨v,hv⟩:=ng;obtain⟨hb,hs⟩:=nE hv;obtain⟨b,o,s⟩:=a;simp only at hs hb;subst hs;refine⟨b,o,n,by rw[bh,hlen,uH],hb,fun i d hd=>?_⟩;obtain⟨c',q,j1,j2⟩:=afo i d hd;rw[addr_add]at j1;exact⟨c',q,j1,j2⟩
end
theorem φ (h:n=1):0<n:=by omega
theorem agb (h:n=2):0<n:=by omega
theorem Wi {a:Nat} (h:k<n):((l.drop a).take n)[k]? =l[a+k]? :=by
 rw[List.getElem?_take_of_lt h,List.getElem?_drop]
theorem nF {α β:Type} {xs:List α} {f:α→β} {ys:List β} (h:xs.map f=ys) {i:Nat} {y:β} (hy:ys[i]? =some y): ∃x,xs[i]? =some x∧f x=y:=by
 rw[←h,I5]at hy;exact xC.1 hy
theorem yz {ms:Array (String×TypeId)} {sp:Nat→Bool} {x:DataW Unit×List MemPlace} (ht:P.underlying t=some (.interface ms))
  (h:DataW.trod (fun _=>()) P w base sp held fuel t cs=some x):cs=[.nilIface]∨ ∃te pe,cs=[.iface te pe]:=by
 cases fuel with
 |zero=>simp[DataW.trod]at h
 |succ n=>
  unfold DataW.trod at h;rw[ht]at h;rcases cs with _|⟨v,_|⟨u,r⟩⟩
  ·simp at h
  ·cases v<;>simp_all
  ·cases v<;>simp at h
section
variable {W:World}
theorem Oe (h:laidMet prog iQ W):lL W∧ ∃ca ta,W.heap[6]? =some (.cells ca ta (0,0)):=by
 obtain⟨cs,fuel,p,hc,hd,hb⟩:=sQ h (n:= "internal/strconv.float64info") (d:=Rows.laid_internal_strconv_float64info) (.tail _ (.tail _ (.tail _ (.head _)))) (g:=6) (t:=270) (by kernel_rfl) (by kernel_rfl);obtain⟨xs,m,_,hx,hl,Sl,fO⟩:=yN underlying270 hd;have hm:xs.map (·.1)=[.lit (.int .u64 52),.lit (.int .u64 11),.lit (.int .i64 (-1023))]:=(DataW.agg.inj (Bq hx).1).symm;obtain⟨x0,e0,y0⟩:=nF hm (i:=0) rfl;obtain⟨x1,e1,y1⟩:=nF hm (i:=1) rfl;obtain⟨x2,e2,y2⟩:=nF hm (i:=2) rfl;have f0:=mw (off:=0) underlying196 (by kernel_rfl) ((fO 0 _ rfl).trans e0) y0;have f1:=mw (off:=1) underlying196 (by kernel_rfl) ((fO 1 _ rfl).trans e1) y1;have f2:=mw (off:=2) underlying3 (by kernel_rfl) ((fO 2 _ rfl).trans e2) y2;have hcz:0<cs.size:=by
  have:cs.toList.length=3:=hl.trans (by kernel_rfl);rw[Array.length_toList]at this;omega
 have fp:W.cell? ⟨6,0,none⟩=some (.int .u64 52):=(hc 0).trans (by simpa using f0);exact⟨⟨fp,(hc 1).trans (by simpa using f1),(hc 2).trans (by simpa using f2),(nE fp).1⟩,hb 0 hcz⟩
theorem Of (h:laidMet prog iQ W): ∃ca ta,W.heap[4]? =some (.cells ca ta (0,0)):=by
 obtain⟨cs,fuel,p,hc,hd,hb⟩:=sQ h (n:= "internal/strconv.float32info") (d:=Rows.laid_internal_strconv_float32info) (.tail _ (.tail _ (.head _))) (g:=4) (t:=270) (by kernel_rfl) (by kernel_rfl);obtain⟨xs,m,_,hx,hl,Sl,fO⟩:=yN underlying270 hd;have hcz:0<cs.size:=by
  have:cs.toList.length=3:=hl.trans (by kernel_rfl);rw[Array.length_toList]at this;omega
 exact hb 0 hcz
theorem Zg (h:laidMet prog iQ W):W.cell? ⟨5,0,none⟩=some (.bool true):=by
 obtain⟨cs,fuel,p,hc,hd,hb⟩:=sQ h (n:= "internal/strconv.optimize") (d:=Rows.laid_internal_strconv_optimize) (.tail _ (.tail _ (.tail _ (.tail _ (.head _))))) (g:=5) (t:=4) (by kernel_rfl) (by kernel_rfl);obtain⟨b,h1,h2⟩:=Jb underlying4 hd;have hb:b=true:=by
  have:=(Bq h2).1;simp only[Rows.laid_internal_strconv_optimize,Jc,Lit.bool.injEq]at this;exact this.symm
 rw[hc 0];have:cs.toList[0]? =some (.bool b):=by rw[h1];rfl
 rw[hb]at this;simpa using this
theorem Zh (h:laidMet prog iQ W): ∃ev,W.cell? ⟨3,0,none⟩=some ev∧(ev= .nilIface∨ ∃te pe,ev= .iface te pe):=by
 obtain⟨cs,fuel,p,hc,hd,hb⟩:=sQ h (n:= "strconv.ErrRange") (d:=Rows.laid_strconv_ErrRange) (.tail _ (.tail _ (.tail _ (.tail _ (.tail _ (.tail _ (.tail _ (.tail _ (.tail _ (.head _)))))))))) (g:=3) (t:=226) (by kernel_rfl) (by kernel_rfl);rcases yz underlying226 hd with h1|⟨te,pe,h1⟩
 ·have:cs.toList[0]? =some .nilIface:=by rw[h1];rfl
  exact⟨_,(hc 0).trans (by simpa using this),.inl rfl⟩
 ·have:cs.toList[0]? =some (.iface te pe):=by rw[h1];rfl
  exact⟨_,(hc 0).trans (by simpa using this),.inr ⟨_,_,rfl⟩⟩
theorem yr {l:List (String×DataW Unit)} (h:laidMet P l W) {n:String} {es:List (DataW Unit)} (hm:(n,.slice es [])∈l) {g:Nat} {t e:TypeId} (hg:P.globalNamed n=some g) (ht:(P.globals[g]?).map (·.type)=some t)
  (hu:P.underlying t=some (.slice e)) (bZ:0<es.length) (S7:0<P.cellsOf e):
  ∃b o m,W.cell? ⟨g,0,none⟩=some (.slice (some ⟨b,o,none⟩) es.length es.length)∧b<W.heap.size∧ ∀i d,es[i]? =some d→ ∃c' q,W.cells? 0 ⟨b,o+i*P.cellsOf e,none⟩ (P.cellsOf e)=some c'∧DataW.trod (fun _=>()) P W 0 (fun _=>true) false m e c'=some (d,q):=by
 obtain⟨cs,fuel,p,hc,hd,_⟩:=sQ h hm hg ht;obtain⟨b,o,m,h1,h2,h3⟩:=Wh hu bZ S7 hd;refine⟨b,o,m,?_,h2,h3⟩;rw[hc 0];have:cs.toList[0]? =some (.slice (some ⟨b,o,none⟩) es.length es.length):=by rw[h1];rfl
 simpa using this
theorem Zi (h:laidMet prog iQ W): ∃PW,By W PW∧PW<W.heap.size:=by
 obtain⟨b,o,m,h1,h2,h3⟩:=yr h (n:= "internal/strconv.powtab") (.tail _ (.tail _ (.tail _ (.tail _ (.tail _ (.head _)))))) (g:=8) (t:=33) (e:=3) (by kernel_rfl) (by kernel_rfl) underlying33 (by decide) (φ (by kernel_rfl));have S7:prog.cellsOf 3=1:=by kernel_rfl
 refine⟨b,⟨⟨o,h1,fun i hi=>?_⟩,(nE h1).1,h2⟩,h2⟩;have hd: ∃d:DataW Unit,[.lit (.int .i64 1),.lit (.int .i64 3),.lit (.int .i64 6),.lit (.int .i64 9),.lit (.int .i64 13),.lit (.int .i64 16),.lit (.int .i64 19),.lit (.int .i64 23),.lit (.int .i64 26)][i]? =some d∧d= .lit (.int .i64 (gK i:Int)):=by
  have:i=0∨i=1∨i=2∨i=3∨i=4∨i=5∨i=6∨i=7∨i=8:=by omega
  rcases this with rfl|rfl|rfl|rfl|rfl|rfl|rfl|rfl|rfl<;>exact⟨_,rfl,rfl⟩
 obtain⟨d,zS,pd⟩:=hd;obtain⟨c',q,k1,k2⟩:=h3 i d zS;obtain⟨z,j1,j2,_⟩:=EG underlying3 k2;have hz:z=(gK i:Int):=by
  have:=(Bq j2).1;rw[pd]at this;simp only[Jc,Lit.int.injEq,vZ]at this;exact this.symm
 rw[S7,ow,j1,hz]at k1;exact cell_of_cells?_one k1
theorem Zj (h:laidMet prog iQ W): ∃b o c,b<W.heap.size∧W.cell? ⟨9,0,none⟩=some (.slice (some ⟨b,o,none⟩) 23 c)∧ ∀k,k<23→W.cell? ⟨b,o+k,none⟩=some (.float .f64 (fl k)):=by
 obtain⟨b,o,m,h1,h2,h3⟩:=yr h (n:= "internal/strconv.float64pow10") (es:=Qe.map fun n=>.lit (.float .f64 n)) (.tail _ (.tail _ (.tail _ (.tail _ (.tail _ (.tail _ (.head _))))))) (g:=9) (t:=303) (e:=162) (by kernel_rfl) (by kernel_rfl) underlying303 (by decide) (φ (by kernel_rfl));have S7:prog.cellsOf 162=1:=by kernel_rfl
 refine⟨b,o,23,h2,h1,fun k hk=>?_⟩;have zU:k<Qe.length:=hk;have zS:(Qe.map fun n=>(DataW.lit (.float .f64 n):DataW Unit))[k]? =some (.lit (.float .f64 (fl k))):=by
  rw[I5,eG zU,fl,lA,eG zU];rfl
 obtain⟨c',q,k1,k2⟩:=h3 k _ zS;obtain⟨z,j1,j2⟩:=Lq underlying162 k2;have hz:z=fl k:=by
  have:=(Bq j2).1;simp only[Jc,Lit.float.injEq,vZ]at this;exact this.symm
 rw[S7,ow,j1,hz]at k1;exact cell_of_cells?_one k1
theorem Sa (h:laidMet prog iQ W): ∃C,kH W C∧C<W.heap.size:=by
 obtain⟨b,o,m,h1,h2,h3⟩:=yr h (n:= "internal/strconv.leftcheats") (es:=Go.Pinned.cheatRows.map fun x=>.agg [.lit (.int .i64 x.1),.lit (.string x.2)]) (.tail _ (.tail _ (.tail _ (.tail _ (.tail _ (.tail _ (.tail _ (.tail _ (.tail _ (.tail _ (.tail _ (.head _)))))))))))) (g:=11) (t:=319) (e:=318) (by kernel_rfl) (by kernel_rfl) underlying319 (by decide) (agb (by kernel_rfl));have S7:prog.cellsOf 318=2:=by kernel_rfl
 refine⟨b,⟨⟨o,h1,fun k hk=>?_⟩,(nE h1).1,h2⟩,h2⟩;have zU:k<Go.Pinned.cheatRows.length:=hk;have zS:(Go.Pinned.cheatRows.map fun x=>(DataW.agg [.lit (.int .i64 x.1),.lit (.string x.2)]:DataW Unit))[k]? =some (.agg [.lit (.int .i64 (DG k:Int)),.lit (.string (LJ k))]):=by
  rw[I5,eG zU,DG,LJ,lA,eG zU];rfl
 obtain⟨c',q,k1,k2⟩:=h3 k _ zS;rw[S7]at k1;have ng:=(ED k1).2.2;obtain⟨xs,n,_,hx,hl,Sl,fO⟩:=yN underlying318 k2;have hm:xs.map (·.1)=[.lit (.int .i64 (DG k:Int)),.lit (.string (LJ k))]:=(DataW.agg.inj (Bq hx).1).symm;obtain⟨x0,e0,y0⟩:=nF hm (i:=0) rfl;obtain⟨x1,e1,y1⟩:=nF hm (i:=1) rfl;have f0:=mw (off:=0) underlying3 (by kernel_rfl) ((fO 0 _ rfl).trans e0) y0;have f1:=R9 (off:=1) underlying9 (by kernel_rfl) ((fO 1 _ rfl).trans e1) y1;constructor
 ·exact(ng 0 (by omega)).trans f0
 ·have:=ng 1 (by omega);rw[addr_add]at this;exact this.trans f1
theorem Sb (h:laidMet prog iQ W): ∀p:Int,-345≤p∧p≤310→W.cell? ⟨10,(p+348).toNat*2,none⟩=some (.int .u64 (ef p:Int))∧W.cell? ⟨10,(p+348).toNat*2+1,none⟩=some (.int .u64 (kY p:Int)):=by
 obtain⟨cs,fuel,p,hc,hd,hb⟩:=sQ h (n:= "internal/strconv.pow10Tab") (d:=Rows.laid_internal_strconv_pow10Tab) (.tail _ (.tail _ (.tail _ (.tail _ (.tail _ (.tail _ (.tail _ (.tail _ (.tail _ (.tail _ (.tail _ (.tail _ (.head _))))))))))))) (g:=10) (t:=308) (by kernel_rfl) (by kernel_rfl);obtain⟨xs,m,_,hx,hl,Sl,fO⟩:=DataW.trod_array underlying308 hd;have hm:xs.map (·.1)=Go.Pinned.pow10Rows.map fun x=>(.agg [.lit (.int .u64 x.1),.lit (.int .u64 x.2)]:DataW Unit):=(DataW.agg.inj (Bq hx).1).symm
 have S7:prog.cellsOf 307=2:=by kernel_rfl
 intro p hp;obtain⟨i,hi⟩: ∃i,i=(p+348).toNat:=⟨_,rfl⟩;have χ:i<696:=by omega
 have Sw:i<Go.Pinned.pow10Rows.length:=by rw[FB];exact χ
 rw[ef,kY,←hi];obtain⟨x,ex,yx⟩:=nF hm (i:=i) (y:=.agg [.lit (.int .u64 ((Go.Pinned.pow10Rows.getD i (0,0)).1:Int)),.lit (.int .u64 ((Go.Pinned.pow10Rows.getD i (0,0)).2:Int))]) (by
  rw[I5,eG Sw,lA,eG Sw];rfl)
 have hE:=(fO i χ).trans ex;rw[S7]at hE;obtain⟨x1,x2⟩:=x;simp only at yx;subst yx;obtain⟨ys,n,_,hy,_,_,ψ⟩:=yN underlying307 hE;have qt:ys.map (·.1)=[.lit (.int .u64 ((Go.Pinned.pow10Rows.getD i (0,0)).1:Int)),.lit (.int .u64 ((Go.Pinned.pow10Rows.getD i (0,0)).2:Int))]:=(DataW.agg.inj (Bq hy).1).symm;obtain⟨u0,e0,y0⟩:=nF qt (i:=0) rfl;obtain⟨u1,e1,y1⟩:=nF qt (i:=1) rfl;have f0:=mw (off:=0) underlying180 (by kernel_rfl) ((ψ 0 _ rfl).trans e0) y0;have f1:=mw (off:=1) underlying180 (by kernel_rfl) ((ψ 1 _ rfl).trans e1) y1;rw[Wi (by omega)]at f0 f1;exact⟨(hc _).trans (by simpa using f0),(hc _).trans (by simpa using f1)⟩
theorem Sc (h:laidMetH prog iQ W):ja W.heap.size W:=by
 rw[MakeChecks.laidMetH_plain _ _ _ (by kernel_rfl)]at h;obtain⟨i1,i2⟩:=Oe h;have i3:=Of h;have o:=Zg h;obtain⟨ev,r1,r2⟩:=Zh h;obtain⟨PW,p1,p2⟩:=Zi h;obtain⟨b,ob,c,f1,f2,f3⟩:=Zj h;obtain⟨C,c1,c2⟩:=Sa h;have t:=Sb h;have l32:4<W.heap.size:=by
  obtain⟨ca,ta,hh⟩:=i3;rcases dF 4 W.heap.size with h1|h1
  ·exact h1
  ·rw[Be h1]at hh;cases hh
 exact⟨i1,⟨i2,i3⟩,⟨PW,p1,p2⟩,⟨C,c1,c2⟩,o,t,⟨b,ob,c,f1,f2,f3⟩,⟨ev,r1,r2⟩,⟨i1.lt,l32,p1.lt0,c1.lt0,(nE o).1,(nE (t 0 (by omega)).1).1,(nE f2).1,(nE r1).1⟩,aS _⟩
end
