import Derived.Test.YtcdoilkjmjbgmaaGreatDoorRows
import Derived.Lay
import Derived.ProofKit
import Derived.OpenShut
import Derived.Deep.DeepHandedRow
import Derived.Shelf.Strings.Builder1
import Derived.Shelf.Small.Strs
import Derived.Shelf.Strings.Search1
import Derived.Shelf.Strings.Search2
import Derived.Shelf.Strings.Search3
import Derived.Lib.IndexAny
import Derived.Lib.LaidU8
import Derived.MakeChecks
import Derived.Test.YtcdoilkjmjbgmaaGreatDoorW48
/- Part of the proof of YtcdoilkjmjbgmaaGreatDoorCardX: World TabA TabB. -/
set_option maxRecDepth 100000
set_option maxHeartbeats 4000000
set_option linter.unusedVariables false
set_option linter.unusedSimpArgs false
namespace Go.Proofs.YtcdoilkjmjbgmaaGreatDoor
open Go.ChangeShapes Go.WideShapes Go.ChangeAt Go.RowKit
open Go.Proofs.Tryz
variable {apart:Bool}
theorem Ws:ownKnob prog.godebug=none:=by kernel_rfl
def iP:List (String×DataW Unit):=[("math/bits.deBruijn32tab",Rows.laid_math_bits_deBruijn32tab),("math/bits.deBruijn64tab",Rows.laid_math_bits_deBruijn64tab),("internal/strconv.float32info",Rows.laid_internal_strconv_float32info),("internal/strconv.float64info",Rows.laid_internal_strconv_float64info),("internal/strconv.optimize",Rows.laid_internal_strconv_optimize),("internal/strconv.powtab",Rows.laid_internal_strconv_powtab),("internal/strconv.float64pow10",Rows.laid_internal_strconv_float64pow10),("internal/strconv.float32pow10",Rows.laid_internal_strconv_float32pow10),("internal/strconv.uint64pow10",Rows.laid_internal_strconv_uint64pow10),("strconv.ErrRange",Rows.laid_strconv_ErrRange),("strconv.ErrSyntax",Rows.laid_strconv_ErrSyntax),("internal/strconv.leftcheats",Rows.laid_internal_strconv_leftcheats),("internal/strconv.pow10Tab",Rows.laid_internal_strconv_pow10Tab)]
set_option maxRecDepth 1000000 in
theorem Wt (os:Os):(World.holding prog os ⟨#[],#[],[]⟩).layFits prog iP []=true:=by kernel_rfl
set_option maxRecDepth 1000000 in
theorem NS (os:Os):(World.holding prog os ⟨#[],#[],[]⟩).layIfaces prog iP (World.laidAll prog os iP)=true:=by kernel_rfl
theorem Wu (os:Os) (args:Array Value):laidMet prog iP ((World.laidAll prog os iP).forCall (fun _ _=>0) ⟨#[],args,[]⟩).memory:=
 laidMet_laidAll args (Wt os) (NS os)
set_option maxRecDepth 1000000 in
theorem acX (os:Os) (args:Array Value):((World.laidAll prog os iP).forCall (fun _ _=>0) ⟨#[],args,[]⟩).variablesZipB prog=true:=by kernel_rfl
set_option maxRecDepth 1000000 in
theorem ZE (os:Os) (args:Array Value):(((World.laidAll prog os iP).forCall (fun _ _=>0) ⟨#[],args,[]⟩).heap.toList.drop prog.globals.size).take ((begin prog (fun _ _=>0) default).world.heap.size-prog.globals.size)=
   (begin prog (fun _ _=>0) default).world.heap.toList.drop prog.globals.size:=by kernel_rfl
theorem shaped (os:Os) (args:Array Value):((World.laidAll prog os iP).forCall (fun _ _=>0) ⟨#[],args,[]⟩).Shaped prog:=World.shaped_of_ZipB (acX os args) (ZE os args)
section
variable {H:Type} {enc:TypeId×Value→H}
theorem witness {os:Os} {f:FuncId} {fn:Func} {s:OpenSpec} {conds:List PathCond} {laid:List (String×DataW Unit)} (modest:Bool) (args:Array Value)
  (cC:Input.okWideB prog ((World.laidAll prog os iP).forCall (fun _ _=>0) ⟨#[],args,[]⟩) f ⟨#[],args,[]⟩=true)
  (Qc:s.preRow enc prog fn conds apart laid ((World.laidAll prog os iP).forCall (fun _ _=>0) ⟨#[],args,[]⟩).memory args):
  ∃(w:World) (tape:Tape) (i:Input),w.os=os∧(w.forCall tape i).Shaped prog∧i.vars=[]∧Input.okWide prog (w.forCall tape i) .any w.heap.size f i∧
   s.preRow enc prog fn conds apart laid (w.forCall tape i).memory i.args∧({modest:=modest}:Assume).holds prog (lone (Frame.enter prog f i.args .normal) [] (w.forCall tape i)):=
 ⟨World.laidAll prog os iP,fun _ _=>0,⟨#[],args,[]⟩,World.laidAll_os _ _ _,shaped os args,(Input.okWide_of_okWideB (base:=0) cC).1,(Input.okWide_of_okWideB cC).2,Qc,by
  simp only[Assume.holds];exact⟨by simp,by simp,fun _=>Modest.zero,by simp,by simp⟩⟩
end
end Go.Proofs.YtcdoilkjmjbgmaaGreatDoor
namespace Go.Proofs.YtcdoilkjmjbgmaaGreatDoor
open Go.RowKit Go.ChangeShapes Go.WideShapes
open Go.Proofs.Tryz
variable {l cs:List Value} {i off n k fuel base:Nat} {v:Value} {z:Int} {a:Addr} {e t:TypeId} {P:Program} {w:World} {held:Bool}
section
variable {P:Program} {w:World}
theorem zI: ∀{l:List (String×DataW Unit)} {ps:List MemPlace},DataW.LaidVars P w l ps→ ∀n d,(n,d)∈l→
  ∃g t cs fuel p,P.globalNamed n=some g∧(P.globals[g]?).map (·.type)=some t∧w.var? P n=some cs∧DataW.trod (fun _=>()) P w 0 (fun _=>true) false fuel t cs.toList=some (d,p)∧ ∀off,off<cs.size→MemPlace.cell g off∈ps
 |[],_,_,_,_,hm=>by cases hm
 |(n',d')::r,ps,h,n,d,hm=>by
  obtain⟨g,t,cs,fuel,p,q,h1,h2,h3,h4,h5,h6⟩:=h;rcases gq.1 hm with e|e
  ·cases e;refine⟨g,t,cs,fuel,p,h1,h2,h3,h4,fun off ho=>?_⟩;rw[h6];refine List.mem_append_left _ (List.mem_append_left _ ?_);rw[MemPlace.row,vD];exact⟨off,qF.2 ho,by simp⟩
  ·obtain⟨g',t',cs',ah7,p',k1,k2,k3,k4,k5⟩:=zI h5 n d e;exact⟨g',t',cs',ah7,p',k1,k2,k3,k4,fun off ho=>by rw[h6];exact List.mem_append_right _ (k5 off ho)⟩
theorem sB {l:List (String×DataW Unit)} (h:laidMet P l w) {n:String} {d:DataW Unit} (hm:(n,d)∈l) {g:Nat} {t:TypeId} (hg:P.globalNamed n=some g) (ht:(P.globals[g]?).map (·.type)=some t):
  ∃(cs:Array Value) (fuel:Nat) (p:List MemPlace),(∀i,w.cell? ⟨g,i,none⟩=cs[i]?)∧DataW.trod (fun _=>()) P w 0 (fun _=>true) false fuel t cs.toList=some (d,p)∧ ∀off,off<cs.size→ ∃c t',w.heap[g]? =some (.cells c t' (0,0)):=by
 obtain⟨ps,hv,_,ji⟩:=h;obtain⟨g',t',cs,fuel,p,h1,h2,h3,h4,h5⟩:=zI hv n d hm;obtain rfl:=yE (hg.symm.trans h1);obtain rfl:=yE (ht.symm.trans h2);exact⟨cs,fuel,p,fun i=>World.var?_cell hg h3 i,h4,fun off ho=>(ji g off (h5 off ho)).1⟩
variable {fuel:Nat} {t:TypeId} {cs:List Value} {p:List MemPlace} {base:Nat} {sp:Nat→Bool} {held:Bool}
theorem K8 {k:FloatKind} {x:DataW Unit×List MemPlace} (ht:P.underlying t=some (.float k)) (h:DataW.trod (fun _=>()) P w base sp held fuel t cs=some x): ∃n,cs=[.float k n]∧x=(.lit (.float k n),[]):=by
 cases fuel with
 |zero=>simp[DataW.trod]at h
 |succ n=>
  unfold DataW.trod at h;rw[ht]at h;split at h<;>simp_all
theorem tW (h:(l.drop i).take 1=[v]):l[i]? =some v:=by
 have h0:((l.drop i).take 1)[0]? =some v:=by rw[h];rfl
 simpa using h0
theorem mh {k:IntKind} {x:DataW Unit×List MemPlace} (hu:P.underlying t=some (.int k)) (hc:P.cellsOf t=1) (h:DataW.trod (fun _=>()) P w base sp held fuel t ((cs.drop off).take (P.cellsOf t))=some x) (hx:x.1= .lit (.int k z)):cs[off]? =some (.int k z):=by
 rw[hc]at h;obtain⟨n,h1,h2,_⟩:=Ez hu h;rw[h2]at hx;simp only[IU,Lit.int.injEq,rz]at hx;subst hx;exact tW h1
theorem R6 {x:DataW Unit×List MemPlace} {z:List UInt8} (hu:P.underlying t=some .string) (hc:P.cellsOf t=1) (h:DataW.trod (fun _=>()) P w base sp held fuel t ((cs.drop off).take (P.cellsOf t))=some x) (hx:x.1= .lit (.string z)):cs[off]? =some (.string ⟨z.toArray⟩):=by
 rw[hc]at h;obtain⟨s,h1,h2,_⟩:=vu hu h;rw[h2]at hx;simp only[IU,Lit.string.injEq]at hx;subst hx;rw[tW h1]
theorem addr_add (b o i:Nat):(⟨b,o,none⟩:Addr).add i=⟨b,o+i,none⟩:=by
 unfold Addr.add;split
 ·rename_i h;subst h;rfl
 ·rfl
theorem nI (h:w.cell? a=some v):a.block<w.heap.size∧a.spot=none:=by
 unfold World.cell? at h;constructor
 ·rcases dD a.block w.heap.size with h1|h1
  ·exact h1
  ·rw[vq h1]at h;cases h
 ·split at h
  ·split at h
   ·cases h
   ·rename_i h2;simpa using h2
  ·cases h
theorem Wv {es:List (DataW Unit)} (ht:P.underlying t=some (.slice e)) (bC:0<es.length) (Td:0<P.cellsOf e) (h:DataW.trod (fun _=>()) P w 0 (fun _=>true) false fuel t cs=some (.slice es [],p)):
  ∃b o m,cs=[.slice (some ⟨b,o,none⟩) es.length es.length]∧b<w.heap.size∧ ∀i d,es[i]? =some d→ ∃c' q,w.cells? 0 ⟨b,o+i*P.cellsOf e,none⟩ (P.cellsOf e)=some c'∧DataW.trod (fun _=>()) P w 0 (fun _=>true) false m e c'=some (d,q):=by
 rcases DataW.trod_slice ht h with⟨_,hx⟩|⟨a,len,cap,elems,rest,n,_,aZ,hx,_,hlc,_,NW,fF,oO,_⟩
 ·cases hx
 ·simp only[vz,DataW.slice.injEq]at hx;obtain⟨⟨he,hr⟩,_⟩:=hx;have SY:rest=[]:=by
   have:=hr.symm;simpa using this
  have uu:cap=len:=by
   have:=(oO rfl).1;rw[SY]at this;simp at this;omega
  have hlen:es.length=len:=by rw[he,kG,NW]
  have agf: ∀i d,es[i]? =some d→ ∃c' q,w.cells? 0 (a.add (i*P.cellsOf e)) (P.cellsOf e)=some c'∧DataW.trod (fun _=>()) P w 0 (fun _=>true) false n e c'=some (d,q):=by
   intro i d hd;have hi:i<len:=by
    rcases dD i len with h1|h1
    ·exact h1
    ·rw[En (by omega)]at hd;cases hd
   have h1:=fF i hi;rw[he,A8]at hd;obtain⟨x,lg,ml⟩:=xj.1 hd;rw[lg]at h1;obtain⟨c',h2,h3⟩:=Oj.1 h1;exact⟨c',x.2,h2,by rw[h3,←ml]⟩
  obtain⟨d0,Xm⟩: ∃d0,es[0]? =some d0:=⟨es[0],lB bC⟩;obtain⟨c0,q0,k1,_⟩:=agf 0 d0 Xm;have k2:=(Ew k1).2.2 0 Td;have nu: ∃v,w.cell? a=some v:=by
   have hl:=(Ew k1).2.1;rw[yG]at k2;have e1:(a.add 0).add 0=a:=rfl;rw[e1]at k2;rw[k2];exact⟨c0[0]'(by omega),lB (by omega)⟩
  obtain⟨v,hv⟩:=nu;obtain⟨hb,hs⟩:=nI hv;obtain⟨b,o,s⟩:=a;simp only at hs hb;subst hs;refine⟨b,o,n,by rw[aZ,hlen,uu],hb,fun i d hd=>?_⟩;obtain⟨c',q,j1,j2⟩:=agf i d hd;rw[addr_add]at j1;exact⟨c',q,j1,j2⟩
end
theorem aah (h:n=1):0<n:=by omega
theorem ah8 (h:n=2):0<n:=by omega
theorem Ww {a:Nat} (h:k<n):((l.drop a).take n)[k]? =l[a+k]? :=by
 rw[List.getElem?_take_of_lt h,List.getElem?_drop]
theorem nJ {α β:Type} {xs:List α} {f:α→β} {ys:List β} (h:xs.map f=ys) {i:Nat} {y:β} (hy:ys[i]? =some y): ∃x,xs[i]? =some x∧f x=y:=by
 rw[←h,A8]at hy;exact xj.1 hy
theorem ym {ms:Array (String×TypeId)} {sp:Nat→Bool} {x:DataW Unit×List MemPlace} (ht:P.underlying t=some (.interface ms))
  (h:DataW.trod (fun _=>()) P w base sp held fuel t cs=some x):cs=[.nilIface]∨ ∃te pe,cs=[.iface te pe]:=by
 cases fuel with
 |zero=>simp[DataW.trod]at h
 |succ n=>
  unfold DataW.trod at h;rw[ht]at h;rcases cs with _|⟨v,_|⟨u,r⟩⟩
  ·simp at h
  ·cases v<;>simp_all
  ·cases v<;>simp at h
section
variable {W:World}
theorem NT (h:laidMet prog iP W):lx W∧ ∃ca ta,W.heap[6]? =some (.cells ca ta (0,0)):=by
 obtain⟨cs,fuel,p,hc,hd,hb⟩:=sB h (n:= "internal/strconv.float64info") (d:=Rows.laid_internal_strconv_float64info) (.tail _ (.tail _ (.tail _ (.head _)))) (g:=6) (t:=270) (by kernel_rfl) (by kernel_rfl);obtain⟨xs,m,_,hx,hl,NZ,fF⟩:=yA underlying270 hd;have hm:xs.map (·.1)=[.lit (.int .u64 52),.lit (.int .u64 11),.lit (.int .i64 (-1023))]:=(DataW.agg.inj (Bj hx).1).symm;obtain⟨x0,e0,y0⟩:=nJ hm (i:=0) rfl;obtain⟨x1,e1,y1⟩:=nJ hm (i:=1) rfl;obtain⟨x2,e2,y2⟩:=nJ hm (i:=2) rfl;have f0:=mh (off:=0) underlying196 (by kernel_rfl) ((fF 0 _ rfl).trans e0) y0;have f1:=mh (off:=1) underlying196 (by kernel_rfl) ((fF 1 _ rfl).trans e1) y1;have f2:=mh (off:=2) underlying3 (by kernel_rfl) ((fF 2 _ rfl).trans e2) y2;have hcz:0<cs.size:=by
  have:cs.toList.length=3:=hl.trans (by kernel_rfl);rw[Array.length_toList]at this;omega
 have eo:W.cell? ⟨6,0,none⟩=some (.int .u64 52):=(hc 0).trans (by simpa using f0);exact⟨⟨eo,(hc 1).trans (by simpa using f1),(hc 2).trans (by simpa using f2),(nI eo).1⟩,hb 0 hcz⟩
theorem NU (h:laidMet prog iP W): ∃ca ta,W.heap[4]? =some (.cells ca ta (0,0)):=by
 obtain⟨cs,fuel,p,hc,hd,hb⟩:=sB h (n:= "internal/strconv.float32info") (d:=Rows.laid_internal_strconv_float32info) (.tail _ (.tail _ (.head _))) (g:=4) (t:=270) (by kernel_rfl) (by kernel_rfl);obtain⟨xs,m,_,hx,hl,NZ,fF⟩:=yA underlying270 hd;have hcz:0<cs.size:=by
  have:cs.toList.length=3:=hl.trans (by kernel_rfl);rw[Array.length_toList]at this;omega
 exact hb 0 hcz
theorem ZF (h:laidMet prog iP W):W.cell? ⟨5,0,none⟩=some (.bool true):=by
 obtain⟨cs,fuel,p,hc,hd,hb⟩:=sB h (n:= "internal/strconv.optimize") (d:=Rows.laid_internal_strconv_optimize) (.tail _ (.tail _ (.tail _ (.tail _ (.head _))))) (g:=5) (t:=4) (by kernel_rfl) (by kernel_rfl);obtain⟨b,h1,h2⟩:=IT underlying4 hd;have hb:b=true:=by
  have:=(Bj h2).1;simp only[Rows.laid_internal_strconv_optimize,IU,Lit.bool.injEq]at this;exact this.symm
 rw[hc 0];have:cs.toList[0]? =some (.bool b):=by rw[h1];rfl
 rw[hb]at this;simpa using this
theorem ZG (h:laidMet prog iP W): ∃ev,W.cell? ⟨3,0,none⟩=some ev∧(ev= .nilIface∨ ∃te pe,ev= .iface te pe):=by
 obtain⟨cs,fuel,p,hc,hd,hb⟩:=sB h (n:= "strconv.ErrRange") (d:=Rows.laid_strconv_ErrRange) (.tail _ (.tail _ (.tail _ (.tail _ (.tail _ (.tail _ (.tail _ (.tail _ (.tail _ (.head _)))))))))) (g:=3) (t:=226) (by kernel_rfl) (by kernel_rfl);rcases ym underlying226 hd with h1|⟨te,pe,h1⟩
 ·have:cs.toList[0]? =some .nilIface:=by rw[h1];rfl
  exact⟨_,(hc 0).trans (by simpa using this),.inl rfl⟩
 ·have:cs.toList[0]? =some (.iface te pe):=by rw[h1];rfl
  exact⟨_,(hc 0).trans (by simpa using this),.inr ⟨_,_,rfl⟩⟩
theorem yf {l:List (String×DataW Unit)} (h:laidMet P l W) {n:String} {es:List (DataW Unit)} (hm:(n,.slice es [])∈l) {g:Nat} {t e:TypeId} (hg:P.globalNamed n=some g) (ht:(P.globals[g]?).map (·.type)=some t)
  (hu:P.underlying t=some (.slice e)) (bC:0<es.length) (Td:0<P.cellsOf e):
  ∃b o m,W.cell? ⟨g,0,none⟩=some (.slice (some ⟨b,o,none⟩) es.length es.length)∧b<W.heap.size∧ ∀i d,es[i]? =some d→ ∃c' q,W.cells? 0 ⟨b,o+i*P.cellsOf e,none⟩ (P.cellsOf e)=some c'∧DataW.trod (fun _=>()) P W 0 (fun _=>true) false m e c'=some (d,q):=by
 obtain⟨cs,fuel,p,hc,hd,_⟩:=sB h hm hg ht;obtain⟨b,o,m,h1,h2,h3⟩:=Wv hu bC Td hd;refine⟨b,o,m,?_,h2,h3⟩;rw[hc 0];have:cs.toList[0]? =some (.slice (some ⟨b,o,none⟩) es.length es.length):=by rw[h1];rfl
 simpa using this
theorem ZH (h:laidMet prog iP W): ∃PW,Br W PW∧PW<W.heap.size:=by
 obtain⟨b,o,m,h1,h2,h3⟩:=yf h (n:= "internal/strconv.powtab") (.tail _ (.tail _ (.tail _ (.tail _ (.tail _ (.head _)))))) (g:=8) (t:=33) (e:=3) (by kernel_rfl) (by kernel_rfl) underlying33 (by decide) (aah (by kernel_rfl));have Td:prog.cellsOf 3=1:=by kernel_rfl
 refine⟨b,⟨⟨o,h1,fun i hi=>?_⟩,(nI h1).1,h2⟩,h2⟩;have hd: ∃d:DataW Unit,[.lit (.int .i64 1),.lit (.int .i64 3),.lit (.int .i64 6),.lit (.int .i64 9),.lit (.int .i64 13),.lit (.int .i64 16),.lit (.int .i64 19),.lit (.int .i64 23),.lit (.int .i64 26)][i]? =some d∧d= .lit (.int .i64 (gE i:Int)):=by
  have:i=0∨i=1∨i=2∨i=3∨i=4∨i=5∨i=6∨i=7∨i=8:=by omega
  rcases this with rfl|rfl|rfl|rfl|rfl|rfl|rfl|rfl|rfl<;>exact⟨_,rfl,rfl⟩
 obtain⟨d,zL,pE⟩:=hd;obtain⟨c',q,k1,k2⟩:=h3 i d zL;obtain⟨z,j1,j2,_⟩:=Ez underlying3 k2;have hz:z=(gE i:Int):=by
  have:=(Bj j2).1;rw[pE]at this;simp only[IU,Lit.int.injEq,rz]at this;exact this.symm
 rw[Td,oC,j1,hz]at k1;exact cell_of_cells?_one k1
theorem ZI (h:laidMet prog iP W): ∃b o c,b<W.heap.size∧W.cell? ⟨9,0,none⟩=some (.slice (some ⟨b,o,none⟩) 23 c)∧ ∀k,k<23→W.cell? ⟨b,o+k,none⟩=some (.float .f64 (ff k)):=by
 obtain⟨b,o,m,h1,h2,h3⟩:=yf h (n:= "internal/strconv.float64pow10") (es:=P4.map fun n=>.lit (.float .f64 n)) (.tail _ (.tail _ (.tail _ (.tail _ (.tail _ (.tail _ (.head _))))))) (g:=9) (t:=303) (e:=162) (by kernel_rfl) (by kernel_rfl) underlying303 (by decide) (aah (by kernel_rfl));have Td:prog.cellsOf 162=1:=by kernel_rfl
 refine⟨b,o,23,h2,h1,fun k hk=>?_⟩;have zM:k<P4.length:=hk;have zL:(P4.map fun n=>(DataW.lit (.float .f64 n):DataW Unit))[k]? =some (.lit (.float .f64 (ff k))):=by
  rw[A8,lB zM,ff,lf,lB zM];rfl
 obtain⟨c',q,k1,k2⟩:=h3 k _ zL;obtain⟨z,j1,j2⟩:=K8 underlying162 k2;have hz:z=ff k:=by
  have:=(Bj j2).1;simp only[IU,Lit.float.injEq,rz]at this;exact this.symm
 rw[Td,oC,j1,hz]at k1;exact cell_of_cells?_one k1
theorem R7 (h:laidMet prog iP W): ∃C,kt W C∧C<W.heap.size:=by
 obtain⟨b,o,m,h1,h2,h3⟩:=yf h (n:= "internal/strconv.leftcheats") (es:=Go.Pinned.cheatRows.map fun x=>.agg [.lit (.int .i64 x.1),.lit (.string x.2)]) (.tail _ (.tail _ (.tail _ (.tail _ (.tail _ (.tail _ (.tail _ (.tail _ (.tail _ (.tail _ (.tail _ (.head _)))))))))))) (g:=11) (t:=319) (e:=318) (by kernel_rfl) (by kernel_rfl) underlying319 (by decide) (ah8 (by kernel_rfl));have Td:prog.cellsOf 318=2:=by kernel_rfl
 refine⟨b,⟨⟨o,h1,fun k hk=>?_⟩,(nI h1).1,h2⟩,h2⟩;have zM:k<Go.Pinned.cheatRows.length:=hk;have zL:(Go.Pinned.cheatRows.map fun x=>(DataW.agg [.lit (.int .i64 x.1),.lit (.string x.2)]:DataW Unit))[k]? =some (.agg [.lit (.int .i64 (Dr k:Int)),.lit (.string (Lq k))]):=by
  rw[A8,lB zM,Dr,Lq,lf,lB zM];rfl
 obtain⟨c',q,k1,k2⟩:=h3 k _ zL;rw[Td]at k1;have nu:=(Ew k1).2.2;obtain⟨xs,n,_,hx,hl,NZ,fF⟩:=yA underlying318 k2;have hm:xs.map (·.1)=[.lit (.int .i64 (Dr k:Int)),.lit (.string (Lq k))]:=(DataW.agg.inj (Bj hx).1).symm;obtain⟨x0,e0,y0⟩:=nJ hm (i:=0) rfl;obtain⟨x1,e1,y1⟩:=nJ hm (i:=1) rfl;have f0:=mh (off:=0) underlying3 (by kernel_rfl) ((fF 0 _ rfl).trans e0) y0;have f1:=R6 (off:=1) underlying9 (by kernel_rfl) ((fF 1 _ rfl).trans e1) y1;constructor
 ·exact(nu 0 (by omega)).trans f0
 ·have:=nu 1 (by omega);rw[addr_add]at this;exact this.trans f1
theorem R8 (h:laidMet prog iP W): ∀p:Int,-345≤p∧p≤310→W.cell? ⟨10,(p+348).toNat*2,none⟩=some (.int .u64 (dY p:Int))∧W.cell? ⟨10,(p+348).toNat*2+1,none⟩=some (.int .u64 (kO p:Int)):=by
 obtain⟨cs,fuel,p,hc,hd,hb⟩:=sB h (n:= "internal/strconv.pow10Tab") (d:=Rows.laid_internal_strconv_pow10Tab) (.tail _ (.tail _ (.tail _ (.tail _ (.tail _ (.tail _ (.tail _ (.tail _ (.tail _ (.tail _ (.tail _ (.tail _ (.head _))))))))))))) (g:=10) (t:=308) (by kernel_rfl) (by kernel_rfl);obtain⟨xs,m,_,hx,hl,NZ,fF⟩:=DataW.trod_array underlying308 hd;have hm:xs.map (·.1)=Go.Pinned.pow10Rows.map fun x=>(.agg [.lit (.int .u64 x.1),.lit (.int .u64 x.2)]:DataW Unit):=(DataW.agg.inj (Bj hx).1).symm
 have Td:prog.cellsOf 307=2:=by kernel_rfl
 intro p hp;obtain⟨i,hi⟩: ∃i,i=(p+348).toNat:=⟨_,rfl⟩;have aai:i<696:=by omega
 have SD:i<Go.Pinned.pow10Rows.length:=by rw[Ft];exact aai
 rw[dY,kO,←hi];obtain⟨x,ex,yx⟩:=nJ hm (i:=i) (y:=.agg [.lit (.int .u64 ((Go.Pinned.pow10Rows.getD i (0,0)).1:Int)),.lit (.int .u64 ((Go.Pinned.pow10Rows.getD i (0,0)).2:Int))]) (by
  rw[A8,lB SD,lf,lB SD];rfl)
 have hE:=(fF i aai).trans ex;rw[Td]at hE;obtain⟨x1,x2⟩:=x;simp only at yx;subst yx;obtain⟨ys,n,_,hy,_,_,aaj⟩:=yA underlying307 hE;have tl:ys.map (·.1)=[.lit (.int .u64 ((Go.Pinned.pow10Rows.getD i (0,0)).1:Int)),.lit (.int .u64 ((Go.Pinned.pow10Rows.getD i (0,0)).2:Int))]:=(DataW.agg.inj (Bj hy).1).symm;obtain⟨u0,e0,y0⟩:=nJ tl (i:=0) rfl;obtain⟨u1,e1,y1⟩:=nJ tl (i:=1) rfl;have f0:=mh (off:=0) underlying180 (by kernel_rfl) ((aaj 0 _ rfl).trans e0) y0;have f1:=mh (off:=1) underlying180 (by kernel_rfl) ((aaj 1 _ rfl).trans e1) y1;rw[Ww (by omega)]at f0 f1;exact⟨(hc _).trans (by simpa using f0),(hc _).trans (by simpa using f1)⟩
theorem R9 (h:laidMetH prog iP W):iZ W.heap.size W:=by
 rw[MakeChecks.laidMetH_plain _ _ _ (by kernel_rfl)]at h;obtain⟨i1,i2⟩:=NT h;have i3:=NU h;have o:=ZF h;obtain⟨ev,r1,r2⟩:=ZG h;obtain⟨PW,p1,p2⟩:=ZH h;obtain⟨b,ob,c,f1,f2,f3⟩:=ZI h;obtain⟨C,c1,c2⟩:=R7 h;have t:=R8 h;have l32:4<W.heap.size:=by
  obtain⟨ca,ta,hh⟩:=i3;rcases dD 4 W.heap.size with h1|h1
  ·exact h1
  ·rw[vq h1]at hh;cases hh
 exact⟨i1,⟨i2,i3⟩,⟨PW,p1,p2⟩,⟨C,c1,c2⟩,o,t,⟨b,ob,c,f1,f2,f3⟩,⟨ev,r1,r2⟩,⟨i1.lt,l32,p1.lt0,c1.lt0,(nI o).1,(nI (t 0 (by omega)).1).1,(nI f2).1,(nI r1).1⟩,aP _⟩
end
