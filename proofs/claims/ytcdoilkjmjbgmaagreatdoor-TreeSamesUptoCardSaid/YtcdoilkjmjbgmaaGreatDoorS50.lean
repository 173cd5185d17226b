import Derived.Test.YtcdoilkjmjbgmaaGreatDoorS39
import Derived.Test.YtcdoilkjmjbgmaaGreatDoorRows
import Derived.Lay
import Derived.ProofKit
import Derived.OpenShut
import Derived.Deep.DeepHandedRow
import Derived.Lib.LaidU8
import Derived.MakeChecks
import Derived.Test.YtcdoilkjmjbgmaaGreatDoorS48
/- Part of the proof of YtcdoilkjmjbgmaaGreatDoorCardY: TsD World TabA TabB. -/
set_option maxRecDepth 100000
set_option maxHeartbeats 4000000
set_option linter.unusedVariables false
set_option linter.unusedSimpArgs false
namespace Go.Proofs.YtcdoilkjmjbgmaaGreatDoor
open Go.RowKit
variable {w W:World} {p:Nat} {L:List (Nat×PR)}
theorem vL.push {p d lo:Nat} {pre:List (Nat×PR)} {W W3:World} {v v' vm:Value} {zs:List (zP×Value)} {r:PR} (h1:zs.map (·.1)=lx (pre.map (·.2))) (hb:aM W p 51 #[v]) (ho:W.ownsRow (p+1) 60 4 v zs.length (zs.flatMap Dy)) (hm: ∀z∈zs,vk (p+1) v W z.2 z.1.ms) (hx:PV (p+1) W zs)
  (hk:r.kind=3) (hv:xq lo W vm r.ms) (hap: ∀z∈zs,gR z.2 vm) (AG:p+1≤lo) (akG: ∀q,v.ownBlock=some q→q<lo)
  (Pz:W3.ownsRow (p+1) 60 4 v' (zs.length+1) (zs.flatMap Dy++[.string r.text,vm,.string r.off,.string r.tim])) (hg:W.grownBy W3 v.ownBlock) (ht:jx v v'∨(v'.ownBlock=some (W.heap.size+1)∧W.grownBy W3 none)):
  vL p (pre++[(d,r)]) (W3.setCell ⟨p,0,none⟩ v'):=by
 have cu:aM W3 p 51 #[v]:=hb.grown hg (cW ho hb (by decide)).symm;have hmo: ∀{m:Value} {ms:List PM} {B:Nat},xq B W m ms→xq B (W3.setCell ⟨p,0,none⟩ v') m ms:=fun h=>aG (h.kept hg (iU h ho (by decide))) cu (by decide) v'
 refine⟨⟨v',zs++[(⟨r.text,r.ms,r.off,r.tim⟩,vm)],?_,?_,?_,?_,?_⟩⟩
 ·rw[nQ,nQ,mq,mY,mq,mY,zy,az hk,h1]
 ·have:=cu.dz 0 v';simpa using this
 ·rw[ym,iF];exact aG (by simpa [Dy]using Pz) cu (by decide) v'
 ·intro z hz;rcases qV.1 hz with hz|hz
  ·exact((hm z hz).push hg ht).dz (vu p)
  ·rw[xg.1 hz];exact(vk.push (t5:=v) ⟨lo,W,fV.jt hv,AG,iZ.refl _ _,fun q hq=>.inl (akG q hq)⟩ hg ht).dz (vu p)
 ·refine⟨fun z hz=>?_,List.pairwise_append.2 ⟨hx.2,List.pairwise_singleton _ _,fun z hz y hy=>by rw[xg.1 hy];exact hap z hz⟩⟩;rcases qV.1 hz with hz|hz
  ·exact hmo (hx.1 z hz)
  ·rw[xg.1 hz];exact cr (hmo hv) AG
theorem vL.start (w:World):vL w.heap.size [] (w.alloc (.cells #[.slice none 0 0] 51)):=⟨⟨_,[],rfl,aM.new _ _ _,sZ _ _ _ _,(fun z h=>by cases h),(fun z h=>by cases h),List.Pairwise.nil⟩⟩
theorem vL.post (h:vL p L W) (hp:w.heap.size≤p+1) (hb:Below w.heap.size w W): ∃ao n c,aM W p 51 #[.slice ao n c]∧xS w L (.returned (.slice ao n c)) W:=by
 obtain⟨v,zs,h1,h2,h3,h4,h5⟩:=h.ex;obtain⟨ao,n,c,rfl⟩:=df h3;refine⟨ao,n,c,h2,_,zs,rfl,h1,cr h3 hp,fun z hz=>?_,hb,fun z hz=>cr (h5.1 z hz) hp,h5.2⟩;obtain⟨lo,w1,k1,k2,k3,k4⟩:=h4 z hz;exact⟨lo,w1,k1,bR hp k2,k3,k4⟩
end Go.Proofs.YtcdoilkjmjbgmaaGreatDoor
namespace Go.Proofs.YtcdoilkjmjbgmaaGreatDoor
open Go.ChangeShapes Go.WideShapes Go.ChangeAt Go.RowKit
open Go.Proofs.Tryz
variable {apart:Bool}
theorem Wh:ownKnob prog.godebug=none:=by kernel_rfl
def iG:List (String×DataW Unit):=[("math/bits.deBruijn32tab",Rows.laid_math_bits_deBruijn32tab),("math/bits.deBruijn64tab",Rows.laid_math_bits_deBruijn64tab),("internal/strconv.float32info",Rows.laid_internal_strconv_float32info),("internal/strconv.float64info",Rows.laid_internal_strconv_float64info),("internal/strconv.optimize",Rows.laid_internal_strconv_optimize),("internal/strconv.powtab",Rows.laid_internal_strconv_powtab),("internal/strconv.float64pow10",Rows.laid_internal_strconv_float64pow10),("internal/strconv.float32pow10",Rows.laid_internal_strconv_float32pow10),("internal/strconv.uint64pow10",Rows.laid_internal_strconv_uint64pow10),("strconv.ErrRange",Rows.laid_strconv_ErrRange),("strconv.ErrSyntax",Rows.laid_strconv_ErrSyntax),("internal/strconv.leftcheats",Rows.laid_internal_strconv_leftcheats),("internal/strconv.pow10Tab",Rows.laid_internal_strconv_pow10Tab)]
set_option maxRecDepth 1000000 in
theorem Wi (os:Os):(World.holding prog os ⟨#[],#[],[]⟩).layFits prog iG []=true:=by kernel_rfl
set_option maxRecDepth 1000000 in
theorem NO (os:Os):(World.holding prog os ⟨#[],#[],[]⟩).layIfaces prog iG (World.laidAll prog os iG)=true:=by kernel_rfl
theorem Wj (os:Os) (args:Array Value):laidMet prog iG ((World.laidAll prog os iG).forCall (fun _ _=>0) ⟨#[],args,[]⟩).memory:=
 laidMet_laidAll args (Wi os) (NO os)
set_option maxRecDepth 1000000 in
theorem acK (os:Os) (args:Array Value):((World.laidAll prog os iG).forCall (fun _ _=>0) ⟨#[],args,[]⟩).variablesZipB prog=true:=by kernel_rfl
set_option maxRecDepth 1000000 in
theorem Zq (os:Os) (args:Array Value):(((World.laidAll prog os iG).forCall (fun _ _=>0) ⟨#[],args,[]⟩).heap.toList.drop prog.globals.size).take ((begin prog (fun _ _=>0) default).world.heap.size-prog.globals.size)=
   (begin prog (fun _ _=>0) default).world.heap.toList.drop prog.globals.size:=by kernel_rfl
theorem shaped (os:Os) (args:Array Value):((World.laidAll prog os iG).forCall (fun _ _=>0) ⟨#[],args,[]⟩).Shaped prog:=World.shaped_of_ZipB (acK os args) (Zq os args)
section
variable {H:Type} {enc:TypeId×Value→H}
theorem witness {os:Os} {f:FuncId} {fn:Func} {s:OpenSpec} {conds:List PathCond} {laid:List (String×DataW Unit)} (modest:Bool) (args:Array Value)
  (cH:Input.okWideB prog ((World.laidAll prog os iG).forCall (fun _ _=>0) ⟨#[],args,[]⟩) f ⟨#[],args,[]⟩=true)
  (PX:s.preRow enc prog fn conds apart laid ((World.laidAll prog os iG).forCall (fun _ _=>0) ⟨#[],args,[]⟩).memory args):
  ∃(w:World) (tape:Tape) (i:Input),w.os=os∧(w.forCall tape i).Shaped prog∧i.vars=[]∧Input.okWide prog (w.forCall tape i) .any w.heap.size f i∧
   s.preRow enc prog fn conds apart laid (w.forCall tape i).memory i.args∧({modest:=modest}:Assume).holds prog (lone (Frame.enter prog f i.args .normal) [] (w.forCall tape i)):=
 ⟨World.laidAll prog os iG,fun _ _=>0,⟨#[],args,[]⟩,World.laidAll_os _ _ _,shaped os args,(Input.okWide_of_okWideB (base:=0) cH).1,(Input.okWide_of_okWideB cH).2,PX,by
  simp only[Assume.holds];exact⟨by simp,by simp,fun _=>Modest.zero,by simp,by simp⟩⟩
end
end Go.Proofs.YtcdoilkjmjbgmaaGreatDoor
namespace Go.Proofs.YtcdoilkjmjbgmaaGreatDoor
open Go.RowKit Go.ChangeShapes Go.WideShapes
open Go.Proofs.Tryz
variable {l cs:List Value} {i off n k fuel base:Nat} {v:Value} {z:Int} {a:Addr} {e t:TypeId} {P:Program} {w:World} {held:Bool}
section
variable {P:Program} {w:World}
theorem zA: ∀{l:List (String×DataW Unit)} {ps:List MemPlace},DataW.LaidVars P w l ps→ ∀n d,(n,d)∈l→
  ∃g t cs fuel p,P.globalNamed n=some g∧(P.globals[g]?).map (·.type)=some t∧w.var? P n=some cs∧DataW.trod (fun _=>()) P w 0 (fun _=>true) false fuel t cs.toList=some (d,p)∧ ∀off,off<cs.size→MemPlace.cell g off∈ps
 |[],_,_,_,_,hm=>by cases hm
 |(n',d')::r,ps,h,n,d,hm=>by
  obtain⟨g,t,cs,fuel,p,q,h1,h2,h3,h4,h5,h6⟩:=h;rcases gL.1 hm with e|e
  ·cases e;refine⟨g,t,cs,fuel,p,h1,h2,h3,h4,fun off ho=>?_⟩;rw[h6];refine List.mem_append_left _ (List.mem_append_left _ ?_);rw[MemPlace.row,tz];exact⟨off,qj.2 ho,by simp⟩
  ·obtain⟨g',t',cs',agv,p',k1,k2,k3,k4,k5⟩:=zA h5 n d e;exact⟨g',t',cs',agv,p',k1,k2,k3,k4,fun off ho=>by rw[h6];exact List.mem_append_right _ (k5 off ho)⟩
theorem sr {l:List (String×DataW Unit)} (h:laidMet P l w) {n:String} {d:DataW Unit} (hm:(n,d)∈l) {g:Nat} {t:TypeId} (hg:P.globalNamed n=some g) (ht:(P.globals[g]?).map (·.type)=some t):
  ∃(cs:Array Value) (fuel:Nat) (p:List MemPlace),(∀i,w.cell? ⟨g,i,none⟩=cs[i]?)∧DataW.trod (fun _=>()) P w 0 (fun _=>true) false fuel t cs.toList=some (d,p)∧ ∀off,off<cs.size→ ∃c t',w.heap[g]? =some (.cells c t' (0,0)):=by
 obtain⟨ps,hv,_,ja⟩:=h;obtain⟨g',t',cs,fuel,p,h1,h2,h3,h4,h5⟩:=zA hv n d hm;obtain rfl:=yy (hg.symm.trans h1);obtain rfl:=yy (ht.symm.trans h2);exact⟨cs,fuel,p,fun i=>World.var?_cell hg h3 i,h4,fun off ho=>(ja g off (h5 off ho)).1⟩
variable {fuel:Nat} {t:TypeId} {cs:List Value} {p:List MemPlace} {base:Nat} {sp:Nat→Bool} {held:Bool}
theorem KQ {k:FloatKind} {x:DataW Unit×List MemPlace} (ht:P.underlying t=some (.float k)) (h:DataW.trod (fun _=>()) P w base sp held fuel t cs=some x): ∃n,cs=[.float k n]∧x=(.lit (.float k n),[]):=by
 cases fuel with
 |zero=>simp[DataW.trod]at h
 |succ n=>
  unfold DataW.trod at h;rw[ht]at h;split at h<;>simp_all
theorem tR (h:(l.drop i).take 1=[v]):l[i]? =some v:=by
 have h0:((l.drop i).take 1)[0]? =some v:=by rw[h];rfl
 simpa using h0
theorem mg {k:IntKind} {x:DataW Unit×List MemPlace} (hu:P.underlying t=some (.int k)) (hc:P.cellsOf t=1) (h:DataW.trod (fun _=>()) P w base sp held fuel t ((cs.drop off).take (P.cellsOf t))=some x) (hx:x.1= .lit (.int k z)):cs[off]? =some (.int k z):=by
 rw[hc]at h;obtain⟨n,h1,h2,_⟩:=Ek hu h;rw[h2]at hx;simp only[IG,Lit.int.injEq,vD]at hx;subst hx;exact tR h1
theorem RI {x:DataW Unit×List MemPlace} {z:List UInt8} (hu:P.underlying t=some .string) (hc:P.cellsOf t=1) (h:DataW.trod (fun _=>()) P w base sp held fuel t ((cs.drop off).take (P.cellsOf t))=some x) (hx:x.1= .lit (.string z)):cs[off]? =some (.string ⟨z.toArray⟩):=by
 rw[hc]at h;obtain⟨s,h1,h2,_⟩:=vt hu h;rw[h2]at hx;simp only[IG,Lit.string.injEq]at hx;subst hx;rw[tR h1]
theorem addr_add (b o i:Nat):(⟨b,o,none⟩:Addr).add i=⟨b,o+i,none⟩:=by
 unfold Addr.add;split
 ·rename_i h;subst h;rfl
 ·rfl
theorem nA (h:w.cell? a=some v):a.block<w.heap.size∧a.spot=none:=by
 unfold World.cell? at h;constructor
 ·rcases dE a.block w.heap.size with h1|h1
  ·exact h1
  ·rw[AW h1]at h;cases h
 ·split at h
  ·split at h
   ·cases h
   ·rename_i h2;simpa using h2
  ·cases h
theorem Wk {es:List (DataW Unit)} (ht:P.underlying t=some (.slice e)) (bW:0<es.length) (SS:0<P.cellsOf e) (h:DataW.trod (fun _=>()) P w 0 (fun _=>true) false fuel t cs=some (.slice es [],p)):
  ∃b o m,cs=[.slice (some ⟨b,o,none⟩) es.length es.length]∧b<w.heap.size∧ ∀i d,es[i]? =some d→ ∃c' q,w.cells? 0 ⟨b,o+i*P.cellsOf e,none⟩ (P.cellsOf e)=some c'∧DataW.trod (fun _=>()) P w 0 (fun _=>true) false m e c'=some (d,q):=by
 rcases DataW.trod_slice ht h with⟨_,hx⟩|⟨a,len,cap,elems,rest,n,_,bf,hx,_,hlc,_,NR,fH,oy,_⟩
 ·cases hx
 ·simp only[vw,DataW.slice.injEq]at hx;obtain⟨⟨he,hr⟩,_⟩:=hx;have hr0:rest=[]:=by
   have:=hr.symm;simpa using this
  have ue:cap=len:=by
   have:=(oy rfl).1;rw[hr0]at this;simp at this;omega
  have hlen:es.length=len:=by rw[he,ln,NR]
  have afD: ∀i d,es[i]? =some d→ ∃c' q,w.cells? 0 (a.add (i*P.cellsOf e)) (P.cellsOf e)=some c'∧DataW.trod (fun _=>()) P w 0 (fun _=>true) false n e c'=some (d,q):=by
   intro i d hd;have hi:i<len:=by
    rcases dE i len with h1|h1
    ·exact h1
    ·rw[D9 (by omega)]at hd;cases hd
   have h1:=fH i hi;rw[he,IA]at hd;obtain⟨x,lh,mj⟩:=xe.1 hd;rw[lh]at h1;obtain⟨c',h2,h3⟩:=Ob.1 h1;exact⟨c',x.2,h2,by rw[h3,←mj]⟩
  obtain⟨d0,Pq⟩: ∃d0,es[0]? =some d0:=⟨es[0],lJ bW⟩;obtain⟨c0,q0,k1,_⟩:=afD 0 d0 Pq;have k2:=(Eg k1).2.2 0 SS;have mX: ∃v,w.cell? a=some v:=by
   have hl:=(Eg k1).2.1;rw[yB]at k2;have e1:(a.add 0).add 0=a:=rfl;rw[e1]at k2;rw[k2];exact⟨c0[0]'(by omega),lJ (by omega)⟩
  obtain⟨v,hv⟩:=mX;obtain⟨hb,hs⟩:=nA hv;obtain⟨b,o,s⟩:=a;simp only at hs hb;subst hs;refine⟨b,o,n,by rw[bf,hlen,ue],hb,fun i d hd=>?_⟩;obtain⟨c',q,j1,j2⟩:=afD i d hd;rw[addr_add]at j1;exact⟨c',q,j1,j2⟩
end
theorem aa2 (h:n=1):0<n:=by omega
theorem agw (h:n=2):0<n:=by omega
theorem Wl {a:Nat} (h:k<n):((l.drop a).take n)[k]? =l[a+k]? :=by
 rw[List.getElem?_take_of_lt h,List.getElem?_drop]
theorem nC {α β:Type} {xs:List α} {f:α→β} {ys:List β} (h:xs.map f=ys) {i:Nat} {y:β} (hy:ys[i]? =some y): ∃x,xs[i]? =some x∧f x=y:=by
 rw[←h,IA]at hy;exact xe.1 hy
theorem yd {ms:Array (String×TypeId)} {sp:Nat→Bool} {x:DataW Unit×List MemPlace} (ht:P.underlying t=some (.interface ms))
  (h:DataW.trod (fun _=>()) P w base sp held fuel t cs=some x):cs=[.nilIface]∨ ∃te pe,cs=[.iface te pe]:=by
 cases fuel with
 |zero=>simp[DataW.trod]at h
 |succ n=>
  unfold DataW.trod at h;rw[ht]at h;rcases cs with _|⟨v,_|⟨u,r⟩⟩
  ·simp at h
  ·cases v<;>simp_all
  ·cases v<;>simp at h
section
variable {W:World}
theorem NP (h:laidMet prog iG W):lA W∧ ∃ca ta,W.heap[6]? =some (.cells ca ta (0,0)):=by
 obtain⟨cs,fuel,p,hc,hd,hb⟩:=sr h (n:= "internal/strconv.float64info") (d:=Rows.laid_internal_strconv_float64info) (.tail _ (.tail _ (.tail _ (.head _)))) (g:=6) (t:=270) (by kernel_rfl) (by kernel_rfl);obtain⟨xs,m,_,hx,hl,RZ,fH⟩:=yt underlying270 hd;have hm:xs.map (·.1)=[.lit (.int .u64 52),.lit (.int .u64 11),.lit (.int .i64 (-1023))]:=(DataW.agg.inj (Bc hx).1).symm;obtain⟨x0,e0,y0⟩:=nC hm (i:=0) rfl;obtain⟨x1,e1,y1⟩:=nC hm (i:=1) rfl;obtain⟨x2,e2,y2⟩:=nC hm (i:=2) rfl;have f0:=mg (off:=0) underlying196 (by kernel_rfl) ((fH 0 _ rfl).trans e0) y0;have f1:=mg (off:=1) underlying196 (by kernel_rfl) ((fH 1 _ rfl).trans e1) y1;have f2:=mg (off:=2) underlying3 (by kernel_rfl) ((fH 2 _ rfl).trans e2) y2;have hcz:0<cs.size:=by
  have:cs.toList.length=3:=hl.trans (by kernel_rfl);rw[Array.length_toList]at this;omega
 have fm:W.cell? ⟨6,0,none⟩=some (.int .u64 52):=(hc 0).trans (by simpa using f0);exact⟨⟨fm,(hc 1).trans (by simpa using f1),(hc 2).trans (by simpa using f2),(nA fm).1⟩,hb 0 hcz⟩
theorem NQ (h:laidMet prog iG W): ∃ca ta,W.heap[4]? =some (.cells ca ta (0,0)):=by
 obtain⟨cs,fuel,p,hc,hd,hb⟩:=sr h (n:= "internal/strconv.float32info") (d:=Rows.laid_internal_strconv_float32info) (.tail _ (.tail _ (.head _))) (g:=4) (t:=270) (by kernel_rfl) (by kernel_rfl);obtain⟨xs,m,_,hx,hl,RZ,fH⟩:=yt underlying270 hd;have hcz:0<cs.size:=by
  have:cs.toList.length=3:=hl.trans (by kernel_rfl);rw[Array.length_toList]at this;omega
 exact hb 0 hcz
theorem Zr (h:laidMet prog iG W):W.cell? ⟨5,0,none⟩=some (.bool true):=by
 obtain⟨cs,fuel,p,hc,hd,hb⟩:=sr h (n:= "internal/strconv.optimize") (d:=Rows.laid_internal_strconv_optimize) (.tail _ (.tail _ (.tail _ (.tail _ (.head _))))) (g:=5) (t:=4) (by kernel_rfl) (by kernel_rfl);obtain⟨b,h1,h2⟩:=IF underlying4 hd;have hb:b=true:=by
  have:=(Bc h2).1;simp only[Rows.laid_internal_strconv_optimize,IG,Lit.bool.injEq]at this;exact this.symm
 rw[hc 0];have:cs.toList[0]? =some (.bool b):=by rw[h1];rfl
 rw[hb]at this;simpa using this
theorem Zs (h:laidMet prog iG W): ∃ev,W.cell? ⟨3,0,none⟩=some ev∧(ev= .nilIface∨ ∃te pe,ev= .iface te pe):=by
 obtain⟨cs,fuel,p,hc,hd,hb⟩:=sr h (n:= "strconv.ErrRange") (d:=Rows.laid_strconv_ErrRange) (.tail _ (.tail _ (.tail _ (.tail _ (.tail _ (.tail _ (.tail _ (.tail _ (.tail _ (.head _)))))))))) (g:=3) (t:=226) (by kernel_rfl) (by kernel_rfl);rcases yd underlying226 hd with h1|⟨te,pe,h1⟩
 ·have:cs.toList[0]? =some .nilIface:=by rw[h1];rfl
  exact⟨_,(hc 0).trans (by simpa using this),.inl rfl⟩
 ·have:cs.toList[0]? =some (.iface te pe):=by rw[h1];rfl
  exact⟨_,(hc 0).trans (by simpa using this),.inr ⟨_,_,rfl⟩⟩
theorem xX {l:List (String×DataW Unit)} (h:laidMet P l W) {n:String} {es:List (DataW Unit)} (hm:(n,.slice es [])∈l) {g:Nat} {t e:TypeId} (hg:P.globalNamed n=some g) (ht:(P.globals[g]?).map (·.type)=some t)
  (hu:P.underlying t=some (.slice e)) (bW:0<es.length) (SS:0<P.cellsOf e):
  ∃b o m,W.cell? ⟨g,0,none⟩=some (.slice (some ⟨b,o,none⟩) es.length es.length)∧b<W.heap.size∧ ∀i d,es[i]? =some d→ ∃c' q,W.cells? 0 ⟨b,o+i*P.cellsOf e,none⟩ (P.cellsOf e)=some c'∧DataW.trod (fun _=>()) P W 0 (fun _=>true) false m e c'=some (d,q):=by
 obtain⟨cs,fuel,p,hc,hd,_⟩:=sr h hm hg ht;obtain⟨b,o,m,h1,h2,h3⟩:=Wk hu bW SS hd;refine⟨b,o,m,?_,h2,h3⟩;rw[hc 0];have:cs.toList[0]? =some (.slice (some ⟨b,o,none⟩) es.length es.length):=by rw[h1];rfl
 simpa using this
theorem Zt (h:laidMet prog iG W): ∃PW,Bl W PW∧PW<W.heap.size:=by
 obtain⟨b,o,m,h1,h2,h3⟩:=xX h (n:= "internal/strconv.powtab") (.tail _ (.tail _ (.tail _ (.tail _ (.tail _ (.head _)))))) (g:=8) (t:=33) (e:=3) (by kernel_rfl) (by kernel_rfl) underlying33 (by decide) (aa2 (by kernel_rfl));have SS:prog.cellsOf 3=1:=by kernel_rfl
 refine⟨b,⟨⟨o,h1,fun i hi=>?_⟩,(nA h1).1,h2⟩,h2⟩;have hd: ∃d:DataW Unit,[.lit (.int .i64 1),.lit (.int .i64 3),.lit (.int .i64 6),.lit (.int .i64 9),.lit (.int .i64 13),.lit (.int .i64 16),.lit (.int .i64 19),.lit (.int .i64 23),.lit (.int .i64 26)][i]? =some d∧d= .lit (.int .i64 (gC i:Int)):=by
  have:i=0∨i=1∨i=2∨i=3∨i=4∨i=5∨i=6∨i=7∨i=8:=by omega
  rcases this with rfl|rfl|rfl|rfl|rfl|rfl|rfl|rfl|rfl<;>exact⟨_,rfl,rfl⟩
 obtain⟨d,zD,oX⟩:=hd;obtain⟨c',q,k1,k2⟩:=h3 i d zD;obtain⟨z,j1,j2,_⟩:=Ek underlying3 k2;have hz:z=(gC i:Int):=by
  have:=(Bc j2).1;rw[oX]at this;simp only[IG,Lit.int.injEq,vD]at this;exact this.symm
 rw[SS,oj,j1,hz]at k1;exact cell_of_cells?_one k1
theorem Zu (h:laidMet prog iG W): ∃b o c,b<W.heap.size∧W.cell? ⟨9,0,none⟩=some (.slice (some ⟨b,o,none⟩) 23 c)∧ ∀k,k<23→W.cell? ⟨b,o+k,none⟩=some (.float .f64 (fi k)):=by
 obtain⟨b,o,m,h1,h2,h3⟩:=xX h (n:= "internal/strconv.float64pow10") (es:=PL.map fun n=>.lit (.float .f64 n)) (.tail _ (.tail _ (.tail _ (.tail _ (.tail _ (.tail _ (.head _))))))) (g:=9) (t:=303) (e:=162) (by kernel_rfl) (by kernel_rfl) underlying303 (by decide) (aa2 (by kernel_rfl));have SS:prog.cellsOf 162=1:=by kernel_rfl
 refine⟨b,o,23,h2,h1,fun k hk=>?_⟩;have zE:k<PL.length:=hk;have zD:(PL.map fun n=>(DataW.lit (.float .f64 n):DataW Unit))[k]? =some (.lit (.float .f64 (fi k))):=by
  rw[IA,lJ zE,fi,lf,lJ zE];rfl
 obtain⟨c',q,k1,k2⟩:=h3 k _ zD;obtain⟨z,j1,j2⟩:=KQ underlying162 k2;have hz:z=fi k:=by
  have:=(Bc j2).1;simp only[IG,Lit.float.injEq,vD]at this;exact this.symm
 rw[SS,oj,j1,hz]at k1;exact cell_of_cells?_one k1
theorem RJ (h:laidMet prog iG W): ∃C,kC W C∧C<W.heap.size:=by
 obtain⟨b,o,m,h1,h2,h3⟩:=xX h (n:= "internal/strconv.leftcheats") (es:=Go.Pinned.cheatRows.map fun x=>.agg [.lit (.int .i64 x.1),.lit (.string x.2)]) (.tail _ (.tail _ (.tail _ (.tail _ (.tail _ (.tail _ (.tail _ (.tail _ (.tail _ (.tail _ (.tail _ (.head _)))))))))))) (g:=11) (t:=319) (e:=318) (by kernel_rfl) (by kernel_rfl) underlying319 (by decide) (agw (by kernel_rfl));have SS:prog.cellsOf 318=2:=by kernel_rfl
 refine⟨b,⟨⟨o,h1,fun k hk=>?_⟩,(nA h1).1,h2⟩,h2⟩;have zE:k<Go.Pinned.cheatRows.length:=hk;have zD:(Go.Pinned.cheatRows.map fun x=>(DataW.agg [.lit (.int .i64 x.1),.lit (.string x.2)]:DataW Unit))[k]? =some (.agg [.lit (.int .i64 (Di k:Int)),.lit (.string (Lq k))]):=by
  rw[IA,lJ zE,Di,Lq,lf,lJ zE];rfl
 obtain⟨c',q,k1,k2⟩:=h3 k _ zD;rw[SS]at k1;have mX:=(Eg k1).2.2;obtain⟨xs,n,_,hx,hl,RZ,fH⟩:=yt underlying318 k2;have hm:xs.map (·.1)=[.lit (.int .i64 (Di k:Int)),.lit (.string (Lq k))]:=(DataW.agg.inj (Bc hx).1).symm;obtain⟨x0,e0,y0⟩:=nC hm (i:=0) rfl;obtain⟨x1,e1,y1⟩:=nC hm (i:=1) rfl;have f0:=mg (off:=0) underlying3 (by kernel_rfl) ((fH 0 _ rfl).trans e0) y0;have f1:=RI (off:=1) underlying9 (by kernel_rfl) ((fH 1 _ rfl).trans e1) y1;constructor
 ·exact(mX 0 (by omega)).trans f0
 ·have:=mX 1 (by omega);rw[addr_add]at this;exact this.trans f1
theorem RL (h:laidMet prog iG W): ∀p:Int,-345≤p∧p≤310→W.cell? ⟨10,(p+348).toNat*2,none⟩=some (.int .u64 (dW p:Int))∧W.cell? ⟨10,(p+348).toNat*2+1,none⟩=some (.int .u64 (kP p:Int)):=by
 obtain⟨cs,fuel,p,hc,hd,hb⟩:=sr h (n:= "internal/strconv.pow10Tab") (d:=Rows.laid_internal_strconv_pow10Tab) (.tail _ (.tail _ (.tail _ (.tail _ (.tail _ (.tail _ (.tail _ (.tail _ (.tail _ (.tail _ (.tail _ (.tail _ (.head _))))))))))))) (g:=10) (t:=308) (by kernel_rfl) (by kernel_rfl);obtain⟨xs,m,_,hx,hl,RZ,fH⟩:=DataW.trod_array underlying308 hd;have hm:xs.map (·.1)=Go.Pinned.pow10Rows.map fun x=>(.agg [.lit (.int .u64 x.1),.lit (.int .u64 x.2)]:DataW Unit):=(DataW.agg.inj (Bc hx).1).symm
 have SS:prog.cellsOf 307=2:=by kernel_rfl
 intro p hp;obtain⟨i,hi⟩: ∃i,i=(p+348).toNat:=⟨_,rfl⟩;have aa3:i<696:=by omega
 have R9:i<Go.Pinned.pow10Rows.length:=by rw[Fb];exact aa3
 rw[dW,kP,←hi];obtain⟨x,ex,yx⟩:=nC hm (i:=i) (y:=.agg [.lit (.int .u64 ((Go.Pinned.pow10Rows.getD i (0,0)).1:Int)),.lit (.int .u64 ((Go.Pinned.pow10Rows.getD i (0,0)).2:Int))]) (by
  rw[IA,lJ R9,lf,lJ R9];rfl)
 have hE:=(fH i aa3).trans ex;rw[SS]at hE;obtain⟨x1,x2⟩:=x;simp only at yx;subst yx;obtain⟨ys,n,_,hy,_,_,aa4⟩:=yt underlying307 hE;have td:ys.map (·.1)=[.lit (.int .u64 ((Go.Pinned.pow10Rows.getD i (0,0)).1:Int)),.lit (.int .u64 ((Go.Pinned.pow10Rows.getD i (0,0)).2:Int))]:=(DataW.agg.inj (Bc hy).1).symm;obtain⟨u0,e0,y0⟩:=nC td (i:=0) rfl;obtain⟨u1,e1,y1⟩:=nC td (i:=1) rfl;have f0:=mg (off:=0) underlying180 (by kernel_rfl) ((aa4 0 _ rfl).trans e0) y0;have f1:=mg (off:=1) underlying180 (by kernel_rfl) ((aa4 1 _ rfl).trans e1) y1;rw[Wl (by omega)]at f0 f1;exact⟨(hc _).trans (by simpa using f0),(hc _).trans (by simpa using f1)⟩
theorem RM (h:laidMetH prog iG W):iQ W.heap.size W:=by
 rw[MakeChecks.laidMetH_plain _ _ _ (by kernel_rfl)]at h;obtain⟨i1,i2⟩:=NP h;have i3:=NQ h;have o:=Zr h;obtain⟨ev,r1,r2⟩:=Zs h;obtain⟨PW,p1,p2⟩:=Zt h;obtain⟨b,ob,c,f1,f2,f3⟩:=Zu h;obtain⟨C,c1,c2⟩:=RJ h;have t:=RL h;have l32:4<W.heap.size:=by
  obtain⟨ca,ta,hh⟩:=i3;rcases dE 4 W.heap.size with h1|h1
  ·exact h1
  ·rw[AW h1]at hh;cases hh
 exact⟨i1,⟨i2,i3⟩,⟨PW,p1,p2⟩,⟨C,c1,c2⟩,o,t,⟨b,ob,c,f1,f2,f3⟩,⟨ev,r1,r2⟩,⟨i1.lt,l32,p1.lt0,c1.lt0,(nA o).1,(nA (t 0 (by omega)).1).1,(nA f2).1,(nA r1).1⟩,aS _⟩
end
