import Derived.Test.YtibcjfjacielbaaGreatDoorRows
import Derived.Lay
import Derived.ProofKit
import Derived.OpenShut
import Derived.Deep.DeepHandedRow
import Derived.Shelf.Strings.Builder1
import Derived.Shelf.Small.Strs
import Derived.Shelf.Strings.Search1
import Derived.Shelf.Strings.Search2
import Derived.Shelf.Strings.Search3
import Derived.Lib.IndexAny
import Derived.Lib.LaidU8
import Derived.MakeChecks
import Derived.Test.YtibcjfjacielbaaGreatDoorP17
/- Part of the proof of YtibcjfjacielbaaGreatDoorCardP: World TabA TabB. -/
set_option maxRecDepth 100000
set_option maxHeartbeats 4000000
set_option linter.unusedVariables false
set_option linter.unusedSimpArgs false
namespace Go.Proofs.YtibcjfjacielbaaGreatDoor
open Go.ChangeShapes Go.WideShapes Go.ChangeAt Go.RowKit
theorem own_knob:ownKnob Tryz.prog.godebug=none:=by kernel_rfl
def laidL:List (String×DataW Unit):=[("math/bits.deBruijn32tab",Rows.laid_math_bits_deBruijn32tab),("math/bits.deBruijn64tab",Rows.laid_math_bits_deBruijn64tab),("internal/strconv.float32info",Rows.laid_internal_strconv_float32info),("internal/strconv.float64info",Rows.laid_internal_strconv_float64info),("internal/strconv.optimize",Rows.laid_internal_strconv_optimize),("internal/strconv.powtab",Rows.laid_internal_strconv_powtab),("internal/strconv.float64pow10",Rows.laid_internal_strconv_float64pow10),("internal/strconv.float32pow10",Rows.laid_internal_strconv_float32pow10),("internal/strconv.uint64pow10",Rows.laid_internal_strconv_uint64pow10),("strconv.ErrRange",Rows.laid_strconv_ErrRange),("strconv.ErrSyntax",Rows.laid_strconv_ErrSyntax),("internal/strconv.leftcheats",Rows.laid_internal_strconv_leftcheats),("internal/strconv.pow10Tab",Rows.laid_internal_strconv_pow10Tab)]
section
variable {H:Type} {enc:TypeId×Value→H}
end
end Go.Proofs.YtibcjfjacielbaaGreatDoor
set_option linter.unusedVariables false
set_option linter.unusedSimpArgs false
namespace Go.Proofs.YtibcjfjacielbaaGreatDoor
open Go.RowKit Go.ChangeShapes Go.WideShapes
section
variable {P:Program} {w:World}
theorem laidVars_at: ∀{l:List (String×DataW Unit)} {ps:List MemPlace},DataW.LaidVars P w l ps→ ∀n d,(n,d)∈l→
  ∃g t cs fuel p,P.globalNamed n=some g∧(P.globals[g]?).map (·.type)=some t∧w.var? P n=some cs∧DataW.trod (fun _=>()) P w 0 (fun _=>true) false fuel t cs.toList=some (d,p)∧ ∀off,off<cs.size→MemPlace.cell g off∈ps
 |[],_,_,_,_,hm=>by cases hm
 |(n',d')::r,ps,h,n,d,hm=>by
  obtain⟨g,t,cs,fuel,p,q,h1,h2,h3,h4,h5,h6⟩:=h;rcases List.mem_cons.1 hm with e|e
  ·cases e;refine⟨g,t,cs,fuel,p,h1,h2,h3,h4,fun off ho=>?_⟩;rw[h6];refine List.mem_append_left _ (List.mem_append_left _ ?_);rw[MemPlace.row,List.mem_map];exact⟨off,List.mem_range.2 ho,by simp⟩
  ·obtain⟨g',t',cs',fuel',p',k1,k2,k3,k4,k5⟩:=laidVars_at h5 n d e;exact⟨g',t',cs',fuel',p',k1,k2,k3,k4,fun off ho=>by rw[h6];exact List.mem_append_right _ (k5 off ho)⟩
theorem laid_at {l:List (String×DataW Unit)} (h:laidMet P l w) {n:String} {d:DataW Unit} (hm:(n,d)∈l) {g:Nat} {t:TypeId} (hg:P.globalNamed n=some g) (ht:(P.globals[g]?).map (·.type)=some t):
  ∃(cs:Array Value) (fuel:Nat) (p:List MemPlace),(∀i,w.cell? ⟨g,i,none⟩=cs[i]?)∧DataW.trod (fun _=>()) P w 0 (fun _=>true) false fuel t cs.toList=some (d,p)∧ ∀off,off<cs.size→ ∃c t',w.heap[g]? =some (.cells c t' (0,0)):=by
 obtain⟨ps,hv,_,hrows⟩:=h;obtain⟨g',t',cs,fuel,p,h1,h2,h3,h4,h5⟩:=laidVars_at hv n d hm;obtain rfl:=Option.some.inj (hg.symm.trans h1);obtain rfl:=Option.some.inj (ht.symm.trans h2);exact⟨cs,fuel,p,fun i=>World.var?_cell hg h3 i,h4,fun off ho=>(hrows g off (h5 off ho)).1⟩
variable {fuel:Nat} {t:TypeId} {cs:List Value} {p:List MemPlace} {base:Nat} {sp:Nat→Bool} {held:Bool}
theorem trod_float' {k:FloatKind} {x:DataW Unit×List MemPlace} (ht:P.underlying t=some (.float k)) (h:DataW.trod (fun _=>()) P w base sp held fuel t cs=some x): ∃n,cs=[.float k n]∧x=(.lit (.float k n),[]):=by
 cases fuel with
 |zero=>simp[DataW.trod]at h
 |succ n=>
  unfold DataW.trod at h;rw[ht]at h;split at h<;>simp_all
theorem drop_take_one {l:List Value} {i:Nat} {v:Value} (h:(l.drop i).take 1=[v]):l[i]? =some v:=by
 have h0:((l.drop i).take 1)[0]? =some v:=by rw[h];rfl
 simpa using h0
theorem int_field {k:IntKind} {off:Nat} {x:DataW Unit×List MemPlace} {z:Int} (hu:P.underlying t=some (.int k)) (hc:P.cellsOf t=1) (h:DataW.trod (fun _=>()) P w base sp held fuel t ((cs.drop off).take (P.cellsOf t))=some x) (hx:x.1= .lit (.int k z)):cs[off]? =some (.int k z):=by
 rw[hc]at h;obtain⟨n,h1,h2,_⟩:=DataW.trod_int hu h;rw[h2]at hx;simp only[DataW.lit.injEq,Lit.int.injEq,true_and]at hx;subst hx;exact drop_take_one h1
theorem str_field {off:Nat} {x:DataW Unit×List MemPlace} {z:List UInt8} (hu:P.underlying t=some .string) (hc:P.cellsOf t=1) (h:DataW.trod (fun _=>()) P w base sp held fuel t ((cs.drop off).take (P.cellsOf t))=some x) (hx:x.1= .lit (.string z)):cs[off]? =some (.string ⟨z.toArray⟩):=by
 rw[hc]at h;obtain⟨s,h1,h2,_⟩:=DataW.trod_string hu h;rw[h2]at hx;simp only[DataW.lit.injEq,Lit.string.injEq]at hx;subst hx;rw[drop_take_one h1]
theorem addr_add (b o i:Nat):(⟨b,o,none⟩:Addr).add i=⟨b,o+i,none⟩:=by
 unfold Addr.add;split
 ·rename_i h;subst h;rfl
 ·rfl
theorem cell_lt {a:Addr} {v:Value} (h:w.cell? a=some v):a.block<w.heap.size∧a.spot=none:=by
 unfold World.cell? at h;constructor
 ·rcases Nat.lt_or_ge a.block w.heap.size with h1|h1
  ·exact h1
  ·rw[Array.getElem?_eq_none h1]at h;cases h
 ·split at h
  ·split at h
   ·cases h
   ·rename_i h2;simpa using h2
  ·cases h
theorem slice_at {e:TypeId} {es:List (DataW Unit)} (ht:P.underlying t=some (.slice e)) (hne:0<es.length) (hce:0<P.cellsOf e) (h:DataW.trod (fun _=>()) P w 0 (fun _=>true) false fuel t cs=some (.slice es [],p)):
  ∃b o m,cs=[.slice (some ⟨b,o,none⟩) es.length es.length]∧b<w.heap.size∧ ∀i d,es[i]? =some d→ ∃c' q,w.cells? 0 ⟨b,o+i*P.cellsOf e,none⟩ (P.cellsOf e)=some c'∧DataW.trod (fun _=>()) P w 0 (fun _=>true) false m e c'=some (d,q):=by
 rcases DataW.trod_slice ht h with⟨_,hx⟩|⟨a,len,cap,elems,rest,n,_,hcs,hx,_,hlc,_,hel,hall,hrest,_⟩
 ·cases hx
 ·simp only[Prod.mk.injEq,DataW.slice.injEq]at hx;obtain⟨⟨he,hr⟩,_⟩:=hx;have hr0:rest=[]:=by
   have:=hr.symm;simpa using this
  have hcap:cap=len:=by
   have:=(hrest rfl).1;rw[hr0]at this;simp at this;omega
  have hlen:es.length=len:=by rw[he,List.length_map,hel]
  have hget: ∀i d,es[i]? =some d→ ∃c' q,w.cells? 0 (a.add (i*P.cellsOf e)) (P.cellsOf e)=some c'∧DataW.trod (fun _=>()) P w 0 (fun _=>true) false n e c'=some (d,q):=by
   intro i d hd;have hi:i<len:=by
    rcases Nat.lt_or_ge i len with h1|h1
    ·exact h1
    ·rw[List.getElem?_eq_none (by omega)]at hd;cases hd
   have h1:=hall i hi;rw[he,List.getElem?_map]at hd;obtain⟨x,hx1,hx2⟩:=Option.map_eq_some_iff.1 hd;rw[hx1]at h1;obtain⟨c',h2,h3⟩:=Option.bind_eq_some_iff.1 h1;exact⟨c',x.2,h2,by rw[h3,←hx2]⟩
  obtain⟨d0,hd0⟩: ∃d0,es[0]? =some d0:=⟨es[0],List.getElem?_eq_getElem hne⟩;obtain⟨c0,q0,k1,_⟩:=hget 0 d0 hd0;have k2:=(World.cells?_some k1).2.2 0 hce;have hcl: ∃v,w.cell? a=some v:=by
   have hl:=(World.cells?_some k1).2.1;rw[Nat.zero_mul]at k2;have e1:(a.add 0).add 0=a:=rfl;rw[e1]at k2;rw[k2];exact⟨c0[0]'(by omega),List.getElem?_eq_getElem (by omega)⟩
  obtain⟨v,hv⟩:=hcl;obtain⟨hb,hs⟩:=cell_lt hv;obtain⟨b,o,s⟩:=a;simp only at hs hb;subst hs;refine⟨b,o,n,by rw[hcs,hlen,hcap],hb,fun i d hd=>?_⟩;obtain⟨c',q,j1,j2⟩:=hget i d hd;rw[addr_add]at j1;exact⟨c',q,j1,j2⟩
end
theorem pos_1 {n:Nat} (h:n=1):0<n:=by omega
theorem pos_2 {n:Nat} (h:n=2):0<n:=by omega
theorem take_get {l:List Value} {a n k:Nat} (h:k<n):((l.drop a).take n)[k]? =l[a+k]? :=by
 rw[List.getElem?_take_of_lt h,List.getElem?_drop]
theorem map_get {α β:Type} {xs:List α} {f:α→β} {ys:List β} (h:xs.map f=ys) {i:Nat} {y:β} (hy:ys[i]? =some y): ∃x,xs[i]? =some x∧f x=y:=by
 rw[←h,List.getElem?_map]at hy;exact Option.map_eq_some_iff.1 hy
theorem trod_iface_shape {P:Program} {w:World} {ms:Array (String×TypeId)} {t:TypeId} {fuel base:Nat} {sp:Nat→Bool} {held:Bool} {cs:List Value} {x:DataW Unit×List MemPlace} (ht:P.underlying t=some (.interface ms))
  (h:DataW.trod (fun _=>()) P w base sp held fuel t cs=some x):cs=[.nilIface]∨ ∃te pe,cs=[.iface te pe]:=by
 cases fuel with
 |zero=>simp[DataW.trod]at h
 |succ n=>
  unfold DataW.trod at h;rw[ht]at h;rcases cs with _|⟨v,_|⟨u,r⟩⟩
  ·simp at h
  ·cases v<;>simp_all
  ·cases v<;>simp at h
section
variable {W:World}
theorem tab_info64 (h:laidMet Tryz.prog laidL W):InfoAt W∧ ∃ca ta,W.heap[7]? =some (.cells ca ta (0,0)):=by
 obtain⟨cs,fuel,p,hc,hd,hb⟩:=laid_at h (n:= "internal/strconv.float64info") (d:=Rows.laid_internal_strconv_float64info) (.tail _ (.tail _ (.tail _ (.head _)))) (g:=7) (t:=342) (by kernel_rfl) (by kernel_rfl);obtain⟨xs,m,_,hx,hl,hxl,hall⟩:=DataW.trod_struct Tryz.underlying342 hd;have hm:xs.map (·.1)=[.lit (.int .u64 52),.lit (.int .u64 11),.lit (.int .i64 (-1023))]:=(DataW.agg.inj (Prod.mk.inj hx).1).symm;obtain⟨x0,e0,y0⟩:=map_get hm (i:=0) rfl;obtain⟨x1,e1,y1⟩:=map_get hm (i:=1) rfl;obtain⟨x2,e2,y2⟩:=map_get hm (i:=2) rfl;have f0:=int_field (off:=0) Tryz.underlying220 (by kernel_rfl) ((hall 0 _ rfl).trans e0) y0;have f1:=int_field (off:=1) Tryz.underlying220 (by kernel_rfl) ((hall 1 _ rfl).trans e1) y1;have f2:=int_field (off:=2) Tryz.underlying3 (by kernel_rfl) ((hall 2 _ rfl).trans e2) y2;have hcz:0<cs.size:=by
  have:cs.toList.length=3:=hl.trans (by kernel_rfl);rw[Array.length_toList]at this;omega
 have hcell:W.cell? ⟨7,0,none⟩=some (.int .u64 52):=(hc 0).trans (by simpa using f0);exact⟨⟨hcell,(hc 1).trans (by simpa using f1),(hc 2).trans (by simpa using f2),(cell_lt hcell).1⟩,hb 0 hcz⟩
theorem tab_info32 (h:laidMet Tryz.prog laidL W): ∃ca ta,W.heap[5]? =some (.cells ca ta (0,0)):=by
 obtain⟨cs,fuel,p,hc,hd,hb⟩:=laid_at h (n:= "internal/strconv.float32info") (d:=Rows.laid_internal_strconv_float32info) (.tail _ (.tail _ (.head _))) (g:=5) (t:=342) (by kernel_rfl) (by kernel_rfl);obtain⟨xs,m,_,hx,hl,hxl,hall⟩:=DataW.trod_struct Tryz.underlying342 hd;have hcz:0<cs.size:=by
  have:cs.toList.length=3:=hl.trans (by kernel_rfl);rw[Array.length_toList]at this;omega
 exact hb 0 hcz
theorem tab_opt (h:laidMet Tryz.prog laidL W):W.cell? ⟨6,0,none⟩=some (.bool true):=by
 obtain⟨cs,fuel,p,hc,hd,hb⟩:=laid_at h (n:= "internal/strconv.optimize") (d:=Rows.laid_internal_strconv_optimize) (.tail _ (.tail _ (.tail _ (.tail _ (.head _))))) (g:=6) (t:=4) (by kernel_rfl) (by kernel_rfl);obtain⟨b,h1,h2⟩:=DataW.trod_bool Tryz.underlying4 hd;have hb:b=true:=by
  have:=(Prod.mk.inj h2).1;simp only[Rows.laid_internal_strconv_optimize,DataW.lit.injEq,Lit.bool.injEq]at this;exact this.symm
 rw[hc 0];have:cs.toList[0]? =some (.bool b):=by rw[h1];rfl
 rw[hb]at this;simpa using this
theorem tab_rng (h:laidMet Tryz.prog laidL W): ∃ev,W.cell? ⟨4,0,none⟩=some ev∧(ev= .nilIface∨ ∃te pe,ev= .iface te pe):=by
 obtain⟨cs,fuel,p,hc,hd,hb⟩:=laid_at h (n:= "strconv.ErrRange") (d:=Rows.laid_strconv_ErrRange) (.tail _ (.tail _ (.tail _ (.tail _ (.tail _ (.tail _ (.tail _ (.tail _ (.tail _ (.head _)))))))))) (g:=4) (t:=146) (by kernel_rfl) (by kernel_rfl);rcases trod_iface_shape Tryz.underlying146 hd with h1|⟨te,pe,h1⟩
 ·have:cs.toList[0]? =some .nilIface:=by rw[h1];rfl
  exact⟨_,(hc 0).trans (by simpa using this),.inl rfl⟩
 ·have:cs.toList[0]? =some (.iface te pe):=by rw[h1];rfl
  exact⟨_,(hc 0).trans (by simpa using this),.inr ⟨_,_,rfl⟩⟩
theorem slice_var {P:Program} {l:List (String×DataW Unit)} (h:laidMet P l W) {n:String} {es:List (DataW Unit)} (hm:(n,.slice es [])∈l) {g:Nat} {t e:TypeId} (hg:P.globalNamed n=some g) (ht:(P.globals[g]?).map (·.type)=some t)
  (hu:P.underlying t=some (.slice e)) (hne:0<es.length) (hce:0<P.cellsOf e):
  ∃b o m,W.cell? ⟨g,0,none⟩=some (.slice (some ⟨b,o,none⟩) es.length es.length)∧b<W.heap.size∧ ∀i d,es[i]? =some d→ ∃c' q,W.cells? 0 ⟨b,o+i*P.cellsOf e,none⟩ (P.cellsOf e)=some c'∧DataW.trod (fun _=>()) P W 0 (fun _=>true) false m e c'=some (d,q):=by
 obtain⟨cs,fuel,p,hc,hd,_⟩:=laid_at h hm hg ht;obtain⟨b,o,m,h1,h2,h3⟩:=slice_at hu hne hce hd;refine⟨b,o,m,?_,h2,h3⟩;rw[hc 0];have:cs.toList[0]? =some (.slice (some ⟨b,o,none⟩) es.length es.length):=by rw[h1];rfl
 simpa using this
theorem tab_pow (h:laidMet Tryz.prog laidL W): ∃PW,PowAt W PW∧PW<W.heap.size:=by
 obtain⟨b,o,m,h1,h2,h3⟩:=slice_var h (n:= "internal/strconv.powtab") (.tail _ (.tail _ (.tail _ (.tail _ (.tail _ (.head _)))))) (g:=9) (t:=49) (e:=3) (by kernel_rfl) (by kernel_rfl) Tryz.underlying49 (by decide) (pos_1 (by kernel_rfl));have hce:Tryz.prog.cellsOf 3=1:=by kernel_rfl
 refine⟨b,⟨⟨o,h1,fun i hi=>?_⟩,(cell_lt h1).1,h2⟩,h2⟩;have hd: ∃d:DataW Unit,[.lit (.int .i64 1),.lit (.int .i64 3),.lit (.int .i64 6),.lit (.int .i64 9),.lit (.int .i64 13),.lit (.int .i64 16),.lit (.int .i64 19),.lit (.int .i64 23),.lit (.int .i64 26)][i]? =some d∧d= .lit (.int .i64 (powT i:Int)):=by
  have:i=0∨i=1∨i=2∨i=3∨i=4∨i=5∨i=6∨i=7∨i=8:=by omega
  rcases this with rfl|rfl|rfl|rfl|rfl|rfl|rfl|rfl|rfl<;>exact⟨_,rfl,rfl⟩
 obtain⟨d,hd1,hd2⟩:=hd;obtain⟨c',q,k1,k2⟩:=h3 i d hd1;obtain⟨z,j1,j2,_⟩:=DataW.trod_int Tryz.underlying3 k2;have hz:z=(powT i:Int):=by
  have:=(Prod.mk.inj j2).1;rw[hd2]at this;simp only[DataW.lit.injEq,Lit.int.injEq,true_and]at this;exact this.symm
 rw[hce,Nat.mul_one,j1,hz]at k1;exact cell_of_cells?_one k1
theorem tab_f10 (h:laidMet Tryz.prog laidL W): ∃b o c,b<W.heap.size∧W.cell? ⟨10,0,none⟩=some (.slice (some ⟨b,o,none⟩) 23 c)∧ ∀k,k<23→W.cell? ⟨b,o+k,none⟩=some (.float .f64 (p10W k)):=by
 obtain⟨b,o,m,h1,h2,h3⟩:=slice_var h (n:= "internal/strconv.float64pow10") (es:=p10F.map fun n=>.lit (.float .f64 n)) (.tail _ (.tail _ (.tail _ (.tail _ (.tail _ (.tail _ (.head _))))))) (g:=10) (t:=373) (e:=210) (by kernel_rfl) (by kernel_rfl) Tryz.underlying373 (by decide) (pos_1 (by kernel_rfl));have hce:Tryz.prog.cellsOf 210=1:=by kernel_rfl
 refine⟨b,o,23,h2,h1,fun k hk=>?_⟩;have hk2:k<p10F.length:=hk;have hd1:(p10F.map fun n=>(DataW.lit (.float .f64 n):DataW Unit))[k]? =some (.lit (.float .f64 (p10W k))):=by
  rw[List.getElem?_map,List.getElem?_eq_getElem hk2,p10W,List.getD_eq_getElem?_getD,List.getElem?_eq_getElem hk2];rfl
 obtain⟨c',q,k1,k2⟩:=h3 k _ hd1;obtain⟨z,j1,j2⟩:=trod_float' Tryz.underlying210 k2;have hz:z=p10W k:=by
  have:=(Prod.mk.inj j2).1;simp only[DataW.lit.injEq,Lit.float.injEq,true_and]at this;exact this.symm
 rw[hce,Nat.mul_one,j1,hz]at k1;exact cell_of_cells?_one k1
theorem tab_cheat (h:laidMet Tryz.prog laidL W): ∃C,CheatAt W C∧C<W.heap.size:=by
 obtain⟨b,o,m,h1,h2,h3⟩:=slice_var h (n:= "internal/strconv.leftcheats") (es:=Go.Pinned.cheatRows.map fun x=>.agg [.lit (.int .i64 x.1),.lit (.string x.2)]) (.tail _ (.tail _ (.tail _ (.tail _ (.tail _ (.tail _ (.tail _ (.tail _ (.tail _ (.tail _ (.tail _ (.head _)))))))))))) (g:=12) (t:=389) (e:=388) (by kernel_rfl) (by kernel_rfl) Tryz.underlying389 (by decide) (pos_2 (by kernel_rfl));have hce:Tryz.prog.cellsOf 388=2:=by kernel_rfl
 refine⟨b,⟨⟨o,h1,fun k hk=>?_⟩,(cell_lt h1).1,h2⟩,h2⟩;have hk2:k<Go.Pinned.cheatRows.length:=hk;have hd1:(Go.Pinned.cheatRows.map fun x=>(DataW.agg [.lit (.int .i64 x.1),.lit (.string x.2)]:DataW Unit))[k]? =some (.agg [.lit (.int .i64 (chD k:Int)),.lit (.string (chS k))]):=by
  rw[List.getElem?_map,List.getElem?_eq_getElem hk2,chD,chS,List.getD_eq_getElem?_getD,List.getElem?_eq_getElem hk2];rfl
 obtain⟨c',q,k1,k2⟩:=h3 k _ hd1;rw[hce]at k1;have hcl:=(World.cells?_some k1).2.2;obtain⟨xs,n,_,hx,hl,hxl,hall⟩:=DataW.trod_struct Tryz.underlying388 k2;have hm:xs.map (·.1)=[.lit (.int .i64 (chD k:Int)),.lit (.string (chS k))]:=(DataW.agg.inj (Prod.mk.inj hx).1).symm;obtain⟨x0,e0,y0⟩:=map_get hm (i:=0) rfl;obtain⟨x1,e1,y1⟩:=map_get hm (i:=1) rfl;have f0:=int_field (off:=0) Tryz.underlying3 (by kernel_rfl) ((hall 0 _ rfl).trans e0) y0;have f1:=str_field (off:=1) Tryz.underlying9 (by kernel_rfl) ((hall 1 _ rfl).trans e1) y1;constructor
 ·exact(hcl 0 (by omega)).trans f0
 ·have:=hcl 1 (by omega);rw[addr_add]at this;exact this.trans f1
theorem tab_pow10 (h:laidMet Tryz.prog laidL W): ∀p:Int,-345≤p∧p≤310→W.cell? ⟨11,(p+348).toNat*2,none⟩=some (.int .u64 (powHi p:Int))∧W.cell? ⟨11,(p+348).toNat*2+1,none⟩=some (.int .u64 (powLo p:Int)):=by
 obtain⟨cs,fuel,p,hc,hd,hb⟩:=laid_at h (n:= "internal/strconv.pow10Tab") (d:=Rows.laid_internal_strconv_pow10Tab) (.tail _ (.tail _ (.tail _ (.tail _ (.tail _ (.tail _ (.tail _ (.tail _ (.tail _ (.tail _ (.tail _ (.tail _ (.head _))))))))))))) (g:=11) (t:=378) (by kernel_rfl) (by kernel_rfl);obtain⟨xs,m,_,hx,hl,hxl,hall⟩:=DataW.trod_array Tryz.underlying378 hd;have hm:xs.map (·.1)=Go.Pinned.pow10Rows.map fun x=>(.agg [.lit (.int .u64 x.1),.lit (.int .u64 x.2)]:DataW Unit):=(DataW.agg.inj (Prod.mk.inj hx).1).symm
 have hce:Tryz.prog.cellsOf 377=2:=by kernel_rfl
 intro p hp;obtain⟨i,hi⟩: ∃i,i=(p+348).toNat:=⟨_,rfl⟩;have hi696:i<696:=by omega
 have hil:i<Go.Pinned.pow10Rows.length:=by rw[pow10_len];exact hi696
 rw[powHi,powLo,←hi];obtain⟨x,ex,yx⟩:=map_get hm (i:=i) (y:=.agg [.lit (.int .u64 ((Go.Pinned.pow10Rows.getD i (0,0)).1:Int)),.lit (.int .u64 ((Go.Pinned.pow10Rows.getD i (0,0)).2:Int))]) (by
  rw[List.getElem?_map,List.getElem?_eq_getElem hil,List.getD_eq_getElem?_getD,List.getElem?_eq_getElem hil];rfl)
 have hE:=(hall i hi696).trans ex;rw[hce]at hE;obtain⟨x1,x2⟩:=x;simp only at yx;subst yx;obtain⟨ys,n,_,hy,_,_,hall2⟩:=DataW.trod_struct Tryz.underlying377 hE;have hm2:ys.map (·.1)=[.lit (.int .u64 ((Go.Pinned.pow10Rows.getD i (0,0)).1:Int)),.lit (.int .u64 ((Go.Pinned.pow10Rows.getD i (0,0)).2:Int))]:=(DataW.agg.inj (Prod.mk.inj hy).1).symm;obtain⟨u0,e0,y0⟩:=map_get hm2 (i:=0) rfl;obtain⟨u1,e1,y1⟩:=map_get hm2 (i:=1) rfl;have f0:=int_field (off:=0) Tryz.underlying252 (by kernel_rfl) ((hall2 0 _ rfl).trans e0) y0;have f1:=int_field (off:=1) Tryz.underlying252 (by kernel_rfl) ((hall2 1 _ rfl).trans e1) y1;rw[take_get (by omega)]at f0 f1;exact⟨(hc _).trans (by simpa using f0),(hc _).trans (by simpa using f1)⟩
theorem tabs_laid (h:laidMetH Tryz.prog laidL W):NumTab W.heap.size W:=by
 rw[MakeChecks.laidMetH_plain _ _ _ (by kernel_rfl)]at h;obtain⟨i1,i2⟩:=tab_info64 h;have i3:=tab_info32 h;have o:=tab_opt h;obtain⟨ev,r1,r2⟩:=tab_rng h;obtain⟨PW,p1,p2⟩:=tab_pow h;obtain⟨b,ob,c,f1,f2,f3⟩:=tab_f10 h;obtain⟨C,c1,c2⟩:=tab_cheat h;have t:=tab_pow10 h;have l32:5<W.heap.size:=by
  obtain⟨ca,ta,hh⟩:=i3;rcases Nat.lt_or_ge 5 W.heap.size with h1|h1
  ·exact h1
  ·rw[Array.getElem?_eq_none h1]at hh;cases hh
 exact⟨i1,⟨i2,i3⟩,⟨PW,p1,p2⟩,⟨C,c1,c2⟩,o,t,⟨b,ob,c,f1,f2,f3⟩,⟨ev,r1,r2⟩,⟨i1.lt,l32,p1.lt0,c1.lt0,(cell_lt o).1,(cell_lt (t 0 (by omega)).1).1,(cell_lt f2).1,(cell_lt r1).1⟩,Nat.le_refl _⟩
end
end Go.Proofs.YtibcjfjacielbaaGreatDoor
