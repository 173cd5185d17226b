import Derived.Test.YtibcjfjacielbaaGreatDoorH23
import Derived.Test.YtibcjfjacielbaaGreatDoorRows
import Derived.SliceStrings
import Derived.Deep.Slices
import Derived.OpenShut
import Derived.Carry
import Derived.Lay
import Derived.ProofKit
import Derived.Deep.DeepHandedRow
import Derived.Lib.LaidU8
import Derived.MakeChecks
import Derived.Test.YtibcjfjacielbaaGreatDoorH47
/- Part of the proof of YtibcjfjacielbaaGreatDoorCardH: OpenR World TabA TabB. -/
set_option maxRecDepth 100000
set_option maxHeartbeats 4000000
set_option linter.unusedVariables false
set_option linter.unusedSimpArgs false
namespace Go.Proofs.YtibcjfjacielbaaGreatDoor
open Go.ChangeShapes Go.WideShapes Go.RowKit Go.Deep
theorem cs_str:Tryz.prog.cellsOf 9=1:=by kernel_rfl
theorem cs_int:Tryz.prog.cellsOf 3=1:=by kernel_rfl
theorem cs_bool:Tryz.prog.cellsOf 4=1:=by kernel_rfl
theorem cs_strs:Tryz.prog.cellsOf 22=1:=by kernel_rfl
theorem cs_mats:Tryz.prog.cellsOf 32=1:=by kernel_rfl
theorem cs_mat:Tryz.prog.cellsOf 38=3:=by kernel_rfl
theorem cs_row:Tryz.prog.cellsOf 58=17:=by kernel_rfl
theorem cs_when:Tryz.prog.cellsOf 34=2:=by kernel_rfl
theorem cs_mtch:Tryz.prog.cellsOf 56=5:=by kernel_rfl
theorem addr_in {W:World} {a:Addr} {v:Value} (h:W.cell? a=some v):a.block<W.heap.size:=by
 rcases Nat.lt_or_ge a.block W.heap.size with hlt|hge
 ·exact hlt
 ·unfold World.cell? at h;rw[Array.getElem?_eq_none hge]at h;simp at h
theorem bulk_pos {H:Type} (x:DataW H):1≤Rows.uptoBulk x:=by
 cases x with
 |lit l=>cases l<;>simp[Rows.uptoBulk]
 |nil=>simp[Rows.uptoBulk]
 |ptr d=>simp[Rows.uptoBulk]
 |slice elems spare=>simp[Rows.uptoBulk]
 |agg parts=>simp[Rows.uptoBulk]
 |iface t d=>simp[Rows.uptoBulk]
 |map entries=>simp[Rows.uptoBulk]
 |held h=>simp[Rows.uptoBulk]
theorem bulk_count {H:Type}: ∀(l:List (DataW H)),l.length≤Rows.uptoBulkAll l
 |[]=>by simp[Rows.uptoBulkAll]
 |x::r=>by
  have h1:=bulk_pos x;have h2:=bulk_count r;simp only[Rows.uptoBulkAll,List.length_cons];omega
theorem bulk_mem {H:Type}: ∀{l:List (DataW H)} {x:DataW H},x∈l→Rows.uptoBulk x≤Rows.uptoBulkAll l
 |y::r,x,h=>by
  rcases List.mem_cons.1 h with rfl|h
  ·simp only[Rows.uptoBulkAll];omega
  ·have:=bulk_mem h;simp only[Rows.uptoBulkAll];omega
theorem open_strS {H:Type} {enc:TypeId×Value→H} {W:World} {v:Value} {fuel:Nat} {x:DataW H×List MemPlace}
  (hf:DataW.trod enc Tryz.prog W 0 (fun _=>true) true fuel 22 [v]=some x):
  ∃ss:List ByteArray,StrS 0 W v ss∧ss.length≤Rows.uptoBulk x.1∧ ∀s∈ss,s.size≤Rows.uptoBulk x.1:=by
 rcases open_strings Tryz.underlying22 Tryz.underlying9 cs_str hf with⟨hcs,hx⟩|⟨a,len,cap,ss,hcs,_,hl,hm,hz,hx,hcell,hws⟩
 ·obtain rfl:v= .slice none 0 0:=by simpa using hcs
  exact⟨[],⟨none,0,rfl,fun j h=>absurd h (by simp)⟩,Nat.zero_le _,fun s h=>by cases h⟩
 ·obtain rfl:v= .slice (some a) len cap:=by simpa using hcs
  subst hx;simp only[if_true]at hz;obtain⟨b,off,spot⟩:=a;have htl:(ss.take len).length=len:=by simp;omega
  refine⟨ss.take len,⟨some ⟨b,off,spot⟩,cap,by rw[htl],fun j hj=>?_⟩,?_,?_⟩
  ·have hj':j<len:=by rw[htl]at hj;exact hj
   have hspot:spot=none:=by simpa [Addr.add]using World.cell?_spot (hcell 0 (by omega))
   subst hspot;refine⟨b,off,rfl,Nat.zero_le _,addr_in (hcell 0 (by omega)),?_⟩;have:=hcell j (by omega);rw[Addr.add_lit]at this;rw[this,List.getElem_take];have hjs:j<ss.length:=by omega
   simp[List.getD,hjs]
  ·have:=bulk_count (strs (H:=H) (ss.take len));simp only[strs,List.length_map]at this;simp only[Rows.uptoBulk,strs];omega
  ·intro s hs;have h1:DataW.lit (.string s.data.toList)∈strs (H:=H) (ss.take len):=List.mem_map.2 ⟨s,hs,rfl⟩;have h2:=bulk_mem h1;simp only[Rows.uptoBulk,len_data]at h2 ⊢;omega
instance:Inhabited PM:=⟨⟨⟨#[]⟩,0,⟨#[]⟩⟩⟩
instance:Inhabited PR:=⟨⟨0,0,⟨#[]⟩,⟨#[]⟩,[],⟨#[]⟩,⟨#[]⟩,⟨#[]⟩,⟨#[]⟩,false,false,false,[],0,[],false,[]⟩⟩
theorem open_matS {H : Type} {enc : TypeId × Value → H} {W : World} {v : Value} {fuel : Nat} {x : DataW H × List MemPlace}
    (hf : DataW.trod enc Tryz.prog W 0 (fun _ => true) true fuel 32 [v] = some x) :
    ∃ms:List PM,MatS 0 W v ms∧ms.length≤Rows.uptoBulk x.1∧ ∀m∈ms,m.name.size≤Rows.uptoBulk x.1∧m.value.size≤Rows.uptoBulk x.1:=by
  rcases open_slice Tryz.underlying32 hf with⟨hcs,hx⟩|⟨a,len,cap,m,n,D,Pl,hcs,_,hl,hm,hmm,hx,hel⟩
  · obtain rfl : v = .slice none 0 0 := by simpa using hcs
    exact⟨[],⟨none,0,rfl,fun j h=>absurd h (by simp)⟩,Nat.zero_le _,fun s h=>by cases h⟩
  · obtain rfl : v = .slice (some a) len cap := by simpa using hcs
    subst hx
    simp only[if_true]at hmm
    subst hmm
    have each : ∀ i, i < len → ∃ q : PM, W.cell? (a.add (i * 3)) = some (.string q.name) ∧ W.cell? ((a.add (i * 3)).add 1) = some (.int .i64 q.op) ∧ W.cell? ((a.add (i * 3)).add 2) = some (.string q.value) ∧ q.name.size ≤ Rows.uptoBulk (D i) ∧ q.value.size ≤ Rows.uptoBulk (D i) := by
      intro i hi
      obtain⟨cs',h1,h2⟩:=hel i (by omega)
      rw[cs_mat]at h1
      obtain⟨_,hlen,hcell⟩:=World.cells?_some h1
      obtain⟨xs,k,hk,hxy,_,hxl,hf⟩:=DataW.trod_struct Tryz.underlying38 h2
      match xs,hxl,cs',hlen with
      | [y0, y1, y2], _, [v0, v1, v2], _ =>
        have g0:=hf 0 _ rfl
        have g1:=hf 1 _ rfl
        have g2:=hf 2 _ rfl
        simp[cs_int,cs_str]at g0 g1 g2
        obtain⟨z0,e0,f0,_⟩:=DataW.trod_string Tryz.underlying9 g0
        obtain⟨s1,e1,f1,_⟩:=DataW.trod_int Tryz.underlying3 g1
        obtain⟨z2,e2,f2,_⟩:=DataW.trod_string Tryz.underlying9 g2
        have c0:=hcell 0 (by omega)
        have c1:=hcell 1 (by omega)
        have c2:=hcell 2 (by omega)
        simp only[List.cons.injEq,and_true]at e0 e1 e2
        subst e0;subst e1;subst e2;subst f0;subst f1;subst f2
        simp only[Prod.mk.injEq]at hxy
        rw[hxy.1]
        refine⟨⟨z0,s1,z2⟩,by simpa [Addr.add]using c0,by simpa using c1,by simpa using c2,?_,?_⟩
        · simp [Rows.uptoBulk, Rows.uptoBulkAll]; omega
        · simp [Rows.uptoBulk, Rows.uptoBulkAll]; omega
    obtain⟨q,hq⟩:=choose_lt each
    have hbD: ∀i,i<len→Rows.uptoBulk (D i)≤Rows.uptoBulkAll ((List.range len).map D):=fun i hi=>bulk_mem (List.mem_map.2 ⟨i,List.mem_range.2 hi,rfl⟩)
    have hbl:=bulk_count ((List.range len).map D)
    rw[List.length_map,List.length_range]at hbl
    refine⟨(List.range len).map q,?_,by simp only[List.length_map,List.length_range,Rows.uptoBulk];omega,fun s hs=>?_⟩
    · obtain ⟨b, off, spot⟩ := a
      refine⟨some ⟨b,off,spot⟩,m,by simp,fun j hj=>?_⟩
      have hj':j<len:=by simpa using hj
      have hspot:spot=none:=by simpa [Addr.add]using World.cell?_spot (hq 0 (by omega)).1
      subst hspot
      have e:((List.range len).map q)[j]=q j:=by simp
      rw[e]
      obtain⟨r0,r1,r2,_⟩:=hq j hj'
      rw[Addr.add_lit]at r0 r1 r2
      rw[Addr.add_lit]at r1 r2
      exact⟨b,off,rfl,Nat.zero_le _,addr_in r0,r0,r1,r2⟩
    · obtain ⟨i, hi, rfl⟩ := List.mem_map.1 hs
      have h1:=hbD i (List.mem_range.1 hi)
      obtain⟨_,_,_,r3,r4⟩:=hq i (List.mem_range.1 hi)
      simp only[Rows.uptoBulk]
      omega
def RowBy (n:Nat) (r:PR):Prop:=
 (r.op.size≤n∧r.text.size≤n∧r.dur.size≤n∧r.step.size≤n∧r.off.size≤n∧r.tim.size≤n)∧(r.ms.length≤n∧ ∀m∈r.ms,m.name.size≤n∧m.value.size≤n)∧(r.mls.length≤n∧ ∀s∈r.mls,s.size≤n)∧(r.inc.length≤n∧ ∀s∈r.inc,s.size≤n)∧(r.labels.length≤n∧ ∀s∈r.labels,s.size≤n)
theorem RowBy.up {n k:Nat} {r:PR} (h:RowBy n r) (hk:n≤k):RowBy k r:=by
 obtain⟨⟨a1,a2,a3,a4,a5,a6⟩,⟨b1,b2⟩,⟨c1,c2⟩,⟨d1,d2⟩,⟨e1,e2⟩⟩:=h;exact⟨⟨by omega,by omega,by omega,by omega,by omega,by omega⟩,⟨by omega,fun m hm=>by have:=b2 m hm;omega⟩,⟨by omega,fun m hm=>by have:=c2 m hm;omega⟩,⟨by omega,fun m hm=>by have:=d2 m hm;omega⟩,⟨by omega,fun m hm=>by have:=e2 m hm;omega⟩⟩
theorem RowBy.small {r:PR} (h:RowBy 1048576 r):SmallR r:=by
 obtain⟨⟨a1,a2,a3,a4,a5,a6⟩,⟨b1,b2⟩,⟨c1,c2⟩,⟨d1,d2⟩,⟨e1,e2⟩⟩:=h;exact⟨a1,a2,a3,a4,a5,a6,b1,b2,c1,c2,d1,d2,e1,e2⟩
theorem open_row {H : Type} {enc : TypeId × Value → H} {W : World} {cs : List Value} {fuel : Nat} {x : DataW H × List MemPlace} (hl : cs.length = 17)
    (h2 : DataW.trod enc Tryz.prog W 0 (fun _ => true) true fuel 58 cs = some x) :
    ∃(r:PR) (vm vo vi vl:Value),cs=rowCs r vm vo vi vl∧RowLs 0 W r vm vo vi vl∧RowBy (Rows.uptoBulk x.1) r:=by
  obtain⟨xs,k,hk,hxy,_,hxl,hf⟩:=DataW.trod_struct Tryz.underlying58 h2
  match xs,hxl,cs,hl with
  | [y0, y1, y2, y3, y4, y5, y6, y7, y8, y9, y10, y11], _, [v0, v1, v2, v3, v4, v5, v6, v7, v8, v9, v10, v11, v12, v13, v14, v15, v16], _ =>
    have g0:=hf 0 _ rfl
    have g1:=hf 1 _ rfl
    have g2:=hf 2 _ rfl
    have g3:=hf 3 _ rfl
    have g4:=hf 4 _ rfl
    have g5:=hf 5 _ rfl
    have g6:=hf 6 _ rfl
    have g7:=hf 7 _ rfl
    have g8:=hf 8 _ rfl
    have g9:=hf 9 _ rfl
    have g10:=hf 10 _ rfl
    have g11:=hf 11 _ rfl
    clear hf
    simp[cs_int,cs_str,cs_bool,cs_mats,cs_strs,cs_when,cs_mtch]at g0 g1 g2 g3 g4 g5 g6 g7 g8 g9 g10 g11
    obtain⟨ws,k7,_,hw,_,hwl,hf7⟩:=DataW.trod_struct Tryz.underlying34 g7
    obtain⟨ns,k9,_,hn,_,hnl,hf9⟩:=DataW.trod_struct Tryz.underlying56 g9
    match ws,hwl,ns,hnl with
    | [w0, w1], _, [n0, n1, n2, n3, n4], _ =>
      have g70:=hf7 0 _ rfl
      have g71:=hf7 1 _ rfl
      have g90:=hf9 0 _ rfl
      have g91:=hf9 1 _ rfl
      have g92:=hf9 2 _ rfl
      have g93:=hf9 3 _ rfl
      have g94:=hf9 4 _ rfl
      clear hf7 hf9 g7 g9
      simp[cs_int,cs_str,cs_bool,cs_strs]at g70 g71 g90 g91 g92 g93 g94
      obtain⟨z0,e0,f0,_⟩:=DataW.trod_int Tryz.underlying3 g0
      obtain⟨z1,e1,f1,_⟩:=DataW.trod_int Tryz.underlying3 g1
      obtain⟨z2,e2,f2,_⟩:=DataW.trod_string Tryz.underlying9 g2
      obtain⟨z3,e3,f3,_⟩:=DataW.trod_string Tryz.underlying9 g3
      obtain⟨z4,m4,b4,q4⟩:=open_matS g4
      obtain⟨z5,e5,f5,_⟩:=DataW.trod_string Tryz.underlying9 g5
      obtain⟨z6,e6,f6,_⟩:=DataW.trod_string Tryz.underlying9 g6
      obtain⟨z7,e7,f7,_⟩:=DataW.trod_string Tryz.underlying9 g70
      obtain⟨z8,e8,f8,_⟩:=DataW.trod_string Tryz.underlying9 g71
      obtain⟨z9,e9,f9⟩:=DataW.trod_bool Tryz.underlying4 g8
      obtain⟨z10,e10,f10⟩:=DataW.trod_bool Tryz.underlying4 g90
      obtain⟨z11,e11,f11⟩:=DataW.trod_bool Tryz.underlying4 g91
      obtain⟨z12,m12,b12,q12⟩:=open_strS g92
      obtain⟨z13,e13,f13,_⟩:=DataW.trod_int Tryz.underlying3 g93
      obtain⟨z14,m14,b14,q14⟩:=open_strS g94
      obtain⟨z15,e15,f15⟩:=DataW.trod_bool Tryz.underlying4 g10
      obtain⟨z16,m16,b16,q16⟩:=open_strS g11
      simp only[List.cons.injEq,and_true]at e0 e1 e2 e3 e5 e6 e7 e8 e9 e10 e11 e13 e15
      subst e0 e1 e2 e3 e5 e6 e7 e8 e9 e10 e11 e13 e15
      subst f0 f1 f2 f3 f5 f6 f7 f8 f9 f10 f11 f13 f15
      have hw1:=congrArg Prod.fst hw
      have hn1:=congrArg Prod.fst hn
      have hx1:=congrArg Prod.fst hxy
      simp only[List.map_cons,List.map_nil]at hw1 hn1 hx1
      rw[hw1,hn1]at hx1
      rw[hx1]
      refine⟨⟨z0,z1,z2,z3,z4,z5,z6,z7,z8,z9,z10,z11,z12,z13,z14,z15,z16⟩,v4,v12,v14,v16,rfl,⟨m4,m12,m14,m16⟩,?_⟩
      simp only[Rows.uptoBulk,Rows.uptoBulkAll,len_data]
      refine⟨⟨by simp only;omega,by simp only;omega,by simp only;omega,by simp only;omega,by simp only;omega,by simp only;omega⟩,⟨by simp only;omega,fun m hm=>by have:=q4 m hm;omega⟩,⟨by simp only;omega,fun m hm=>by have:=q12 m hm;omega⟩,⟨by simp only;omega,fun m hm=>by have:=q14 m hm;omega⟩,⟨by simp only;omega,fun m hm=>by have:=q16 m hm;omega⟩⟩
theorem open_rows {H:Type} {enc:TypeId×Value→H} {W:World} {v:Value} {fuel:Nat} {x:DataW H×List MemPlace}
  (hf:DataW.trod enc Tryz.prog W 0 (fun _=>true) true fuel 39 [v]=some x):
  ∃rs:List PR,RowsS 0 W v rs∧(∃a c,v= .slice a rs.length c∧rs.length≤c)∧rs.length≤Rows.uptoBulk x.1∧ ∀r∈rs,RowBy (Rows.uptoBulk x.1) r:=by
 rcases open_slice Tryz.underlying39 hf with⟨hcs,hx⟩|⟨a,len,cap,m,n,D,Pl,hcs,_,hl,hm,hmm,hx,hel⟩
 ·obtain rfl:v= .slice none 0 0:=by simpa using hcs
  exact⟨[],⟨none,0,rfl,fun j h=>absurd h (by simp)⟩,⟨none,0,rfl,Nat.le_refl _⟩,Nat.zero_le _,fun s h=>by cases h⟩
 ·obtain rfl:v= .slice (some a) len cap:=by simpa using hcs
  subst hx;simp only[if_true]at hmm;subst hmm;have each: ∀i,i<len→ ∃q:PR×Value×Value×Value×Value,W.cells? 0 (a.add (i*17)) 17=some (rowCs q.1 q.2.1 q.2.2.1 q.2.2.2.1 q.2.2.2.2)∧RowLs 0 W q.1 q.2.1 q.2.2.1 q.2.2.2.1 q.2.2.2.2∧RowBy (Rows.uptoBulk (D i)) q.1:=by
   intro i hi;obtain⟨cs',h1,h2⟩:=hel i (by omega);rw[cs_row]at h1;obtain⟨_,hlen,hcell⟩:=World.cells?_some h1;obtain⟨r,vm,vo,vi,vl,rfl,q1,q2⟩:=open_row hlen h2;exact⟨⟨r,vm,vo,vi,vl⟩,h1,q1,q2⟩
  obtain⟨q,hq⟩:=choose_lt each;have hbD: ∀i,i<len→Rows.uptoBulk (D i)≤Rows.uptoBulkAll ((List.range len).map D):=fun i hi=>bulk_mem (List.mem_map.2 ⟨i,List.mem_range.2 hi,rfl⟩)
  have hbl:=bulk_count ((List.range len).map D);rw[List.length_map,List.length_range]at hbl;have hcell: ∀j,j<len→ ∀k (hk:k<17),W.cell? ((a.add (j*17)).add k)=some ((rowCs (q j).1 (q j).2.1 (q j).2.2.1 (q j).2.2.2.1 (q j).2.2.2.2)[k]'(by simp[rowCs];omega)):=fun j hj k hk=>by
   obtain⟨_,hlen,hcell⟩:=World.cells?_some (hq j hj).1;exact(hcell k hk).trans (List.getElem?_eq_getElem _)
  refine⟨(List.range len).map fun i=>(q i).1,?_,⟨some a,m,by simp,by simpa using hl⟩,by simp only[List.length_map,List.length_range,Rows.uptoBulk];omega,fun s hs=>?_⟩
  ·obtain⟨b,off,spot⟩:=a;refine⟨some ⟨b,off,spot⟩,m,by simp,fun j hj=>?_⟩;have hj':j<len:=by simpa using hj
   have hspot:spot=none:=by simpa [Addr.add]using World.cell?_spot (hcell 0 (by omega) 0 (by omega))
   subst hspot;have e:((List.range len).map fun i=>(q i).1)[j]=(q j).1:=by simp
   have h0:=hcell j hj' 0 (by omega);rw[Addr.add_lit,Addr.add_lit]at h0;rw[e];refine⟨b,off,rfl,Nat.zero_le _,addr_in h0,_,_,_,_,(hq j hj').2.1,fun k hk=>?_⟩;have:=hcell j hj' k hk;rw[Addr.add_lit,Addr.add_lit]at this;exact this
  ·obtain⟨i,hi,rfl⟩:=List.mem_map.1 hs;have h1:=hbD i (List.mem_range.1 hi);refine(hq i (List.mem_range.1 hi)).2.2.up ?_;simp only[Rows.uptoBulk];omega
end Go.Proofs.YtibcjfjacielbaaGreatDoor
set_option linter.unusedVariables false
set_option linter.unusedSimpArgs false
namespace Go.Proofs.YtibcjfjacielbaaGreatDoor
open Go.ChangeShapes Go.WideShapes Go.ChangeAt Go.RowKit
theorem own_knob:ownKnob Tryz.prog.godebug=none:=by kernel_rfl
def laidL:List (String×DataW Unit):=[("math/bits.deBruijn32tab",Rows.laid_math_bits_deBruijn32tab),("math/bits.deBruijn64tab",Rows.laid_math_bits_deBruijn64tab),("internal/strconv.float32info",Rows.laid_internal_strconv_float32info),("internal/strconv.float64info",Rows.laid_internal_strconv_float64info),("internal/strconv.optimize",Rows.laid_internal_strconv_optimize),("internal/strconv.powtab",Rows.laid_internal_strconv_powtab),("internal/strconv.float64pow10",Rows.laid_internal_strconv_float64pow10),("internal/strconv.float32pow10",Rows.laid_internal_strconv_float32pow10),("internal/strconv.uint64pow10",Rows.laid_internal_strconv_uint64pow10),("strconv.ErrRange",Rows.laid_strconv_ErrRange),("strconv.ErrSyntax",Rows.laid_strconv_ErrSyntax),("internal/strconv.leftcheats",Rows.laid_internal_strconv_leftcheats),("internal/strconv.pow10Tab",Rows.laid_internal_strconv_pow10Tab)]
set_option maxRecDepth 1000000 in
theorem lay_fits (os:Os):(World.holding Tryz.prog os ⟨#[],#[],[]⟩).layFits Tryz.prog laidL []=true:=by kernel_rfl
set_option maxRecDepth 1000000 in
theorem lay_ifaces (os:Os):(World.holding Tryz.prog os ⟨#[],#[],[]⟩).layIfaces Tryz.prog laidL (World.laidAll Tryz.prog os laidL)=true:=by kernel_rfl
theorem laid_met (os:Os) (args:Array Value):laidMet Tryz.prog laidL ((World.laidAll Tryz.prog os laidL).forCall (fun _ _=>0) ⟨#[],args,[]⟩).memory:=
 laidMet_laidAll args (lay_fits os) (lay_ifaces os)
set_option maxRecDepth 1000000 in
theorem zip_ok (os:Os) (args:Array Value):((World.laidAll Tryz.prog os laidL).forCall (fun _ _=>0) ⟨#[],args,[]⟩).variablesZipB Tryz.prog=true:=by kernel_rfl
set_option maxRecDepth 1000000 in
theorem rest_ok (os:Os) (args:Array Value):(((World.laidAll Tryz.prog os laidL).forCall (fun _ _=>0) ⟨#[],args,[]⟩).heap.toList.drop Tryz.prog.globals.size).take ((begin Tryz.prog (fun _ _=>0) default).world.heap.size-Tryz.prog.globals.size)=
   (begin Tryz.prog (fun _ _=>0) default).world.heap.toList.drop Tryz.prog.globals.size:=by kernel_rfl
theorem shaped (os:Os) (args:Array Value):((World.laidAll Tryz.prog os laidL).forCall (fun _ _=>0) ⟨#[],args,[]⟩).Shaped Tryz.prog:=World.shaped_of_ZipB (zip_ok os args) (rest_ok os args)
section
variable {H:Type} {enc:TypeId×Value→H}
theorem witness {os:Os} {f:FuncId} {fn:Func} {s:OpenSpec} {conds:List PathCond} {apart:Bool} {laid:List (String×DataW Unit)} (modest:Bool) (args:Array Value)
  (hok:Input.okWideB Tryz.prog ((World.laidAll Tryz.prog os laidL).forCall (fun _ _=>0) ⟨#[],args,[]⟩) f ⟨#[],args,[]⟩=true)
  (hrow:s.preRow enc Tryz.prog fn conds apart laid ((World.laidAll Tryz.prog os laidL).forCall (fun _ _=>0) ⟨#[],args,[]⟩).memory args):
  ∃(w:World) (tape:Tape) (i:Input),w.os=os∧(w.forCall tape i).Shaped Tryz.prog∧i.vars=[]∧Input.okWide Tryz.prog (w.forCall tape i) .any w.heap.size f i∧
   s.preRow enc Tryz.prog fn conds apart laid (w.forCall tape i).memory i.args∧({modest:=modest}:Assume).holds Tryz.prog (lone (Frame.enter Tryz.prog f i.args .normal) [] (w.forCall tape i)):=
 ⟨World.laidAll Tryz.prog os laidL,fun _ _=>0,⟨#[],args,[]⟩,World.laidAll_os _ _ _,shaped os args,(Input.okWide_of_okWideB (base:=0) hok).1,(Input.okWide_of_okWideB hok).2,hrow,by
  simp only[Assume.holds];exact⟨by simp,by simp,fun _=>Modest.zero,by simp,by simp⟩⟩
end
end Go.Proofs.YtibcjfjacielbaaGreatDoor
set_option linter.unusedVariables false
set_option linter.unusedSimpArgs false
namespace Go.Proofs.YtibcjfjacielbaaGreatDoor
open Go.RowKit Go.ChangeShapes Go.WideShapes
section
variable {P:Program} {w:World}
theorem laidVars_at: ∀{l:List (String×DataW Unit)} {ps:List MemPlace},DataW.LaidVars P w l ps→ ∀n d,(n,d)∈l→
  ∃g t cs fuel p,P.globalNamed n=some g∧(P.globals[g]?).map (·.type)=some t∧w.var? P n=some cs∧DataW.trod (fun _=>()) P w 0 (fun _=>true) false fuel t cs.toList=some (d,p)∧ ∀off,off<cs.size→MemPlace.cell g off∈ps
 |[],_,_,_,_,hm=>by cases hm
 |(n',d')::r,ps,h,n,d,hm=>by
  obtain⟨g,t,cs,fuel,p,q,h1,h2,h3,h4,h5,h6⟩:=h;rcases List.mem_cons.1 hm with e|e
  ·cases e;refine⟨g,t,cs,fuel,p,h1,h2,h3,h4,fun off ho=>?_⟩;rw[h6];refine List.mem_append_left _ (List.mem_append_left _ ?_);rw[MemPlace.row,List.mem_map];exact⟨off,List.mem_range.2 ho,by simp⟩
  ·obtain⟨g',t',cs',fuel',p',k1,k2,k3,k4,k5⟩:=laidVars_at h5 n d e;exact⟨g',t',cs',fuel',p',k1,k2,k3,k4,fun off ho=>by rw[h6];exact List.mem_append_right _ (k5 off ho)⟩
theorem laid_at {l:List (String×DataW Unit)} (h:laidMet P l w) {n:String} {d:DataW Unit} (hm:(n,d)∈l) {g:Nat} {t:TypeId} (hg:P.globalNamed n=some g) (ht:(P.globals[g]?).map (·.type)=some t):
  ∃(cs:Array Value) (fuel:Nat) (p:List MemPlace),(∀i,w.cell? ⟨g,i,none⟩=cs[i]?)∧DataW.trod (fun _=>()) P w 0 (fun _=>true) false fuel t cs.toList=some (d,p)∧ ∀off,off<cs.size→ ∃c t',w.heap[g]? =some (.cells c t' (0,0)):=by
 obtain⟨ps,hv,_,hrows⟩:=h;obtain⟨g',t',cs,fuel,p,h1,h2,h3,h4,h5⟩:=laidVars_at hv n d hm;obtain rfl:=Option.some.inj (hg.symm.trans h1);obtain rfl:=Option.some.inj (ht.symm.trans h2);exact⟨cs,fuel,p,fun i=>World.var?_cell hg h3 i,h4,fun off ho=>(hrows g off (h5 off ho)).1⟩
variable {fuel:Nat} {t:TypeId} {cs:List Value} {p:List MemPlace} {base:Nat} {sp:Nat→Bool} {held:Bool}
theorem trod_float' {k:FloatKind} {x:DataW Unit×List MemPlace} (ht:P.underlying t=some (.float k)) (h:DataW.trod (fun _=>()) P w base sp held fuel t cs=some x): ∃n,cs=[.float k n]∧x=(.lit (.float k n),[]):=by
 cases fuel with
 |zero=>simp[DataW.trod]at h
 |succ n=>
  unfold DataW.trod at h;rw[ht]at h;split at h<;>simp_all
theorem drop_take_one {l:List Value} {i:Nat} {v:Value} (h:(l.drop i).take 1=[v]):l[i]? =some v:=by
 have h0:((l.drop i).take 1)[0]? =some v:=by rw[h];rfl
 simpa using h0
theorem int_field {k:IntKind} {off:Nat} {x:DataW Unit×List MemPlace} {z:Int} (hu:P.underlying t=some (.int k)) (hc:P.cellsOf t=1) (h:DataW.trod (fun _=>()) P w base sp held fuel t ((cs.drop off).take (P.cellsOf t))=some x) (hx:x.1= .lit (.int k z)):cs[off]? =some (.int k z):=by
 rw[hc]at h;obtain⟨n,h1,h2,_⟩:=DataW.trod_int hu h;rw[h2]at hx;simp only[DataW.lit.injEq,Lit.int.injEq,true_and]at hx;subst hx;exact drop_take_one h1
theorem str_field {off:Nat} {x:DataW Unit×List MemPlace} {z:List UInt8} (hu:P.underlying t=some .string) (hc:P.cellsOf t=1) (h:DataW.trod (fun _=>()) P w base sp held fuel t ((cs.drop off).take (P.cellsOf t))=some x) (hx:x.1= .lit (.string z)):cs[off]? =some (.string ⟨z.toArray⟩):=by
 rw[hc]at h;obtain⟨s,h1,h2,_⟩:=DataW.trod_string hu h;rw[h2]at hx;simp only[DataW.lit.injEq,Lit.string.injEq]at hx;subst hx;rw[drop_take_one h1]
theorem addr_add (b o i:Nat):(⟨b,o,none⟩:Addr).add i=⟨b,o+i,none⟩:=by
 unfold Addr.add;split
 ·rename_i h;subst h;rfl
 ·rfl
theorem cell_lt {a:Addr} {v:Value} (h:w.cell? a=some v):a.block<w.heap.size∧a.spot=none:=by
 unfold World.cell? at h;constructor
 ·rcases Nat.lt_or_ge a.block w.heap.size with h1|h1
  ·exact h1
  ·rw[Array.getElem?_eq_none h1]at h;cases h
 ·split at h
  ·split at h
   ·cases h
   ·rename_i h2;simpa using h2
  ·cases h
theorem slice_at {e:TypeId} {es:List (DataW Unit)} (ht:P.underlying t=some (.slice e)) (hne:0<es.length) (hce:0<P.cellsOf e) (h:DataW.trod (fun _=>()) P w 0 (fun _=>true) false fuel t cs=some (.slice es [],p)):
  ∃b o m,cs=[.slice (some ⟨b,o,none⟩) es.length es.length]∧b<w.heap.size∧ ∀i d,es[i]? =some d→ ∃c' q,w.cells? 0 ⟨b,o+i*P.cellsOf e,none⟩ (P.cellsOf e)=some c'∧DataW.trod (fun _=>()) P w 0 (fun _=>true) false m e c'=some (d,q):=by
 rcases DataW.trod_slice ht h with⟨_,hx⟩|⟨a,len,cap,elems,rest,n,_,hcs,hx,_,hlc,_,hel,hall,hrest,_⟩
 ·cases hx
 ·simp only[Prod.mk.injEq,DataW.slice.injEq]at hx;obtain⟨⟨he,hr⟩,_⟩:=hx;have hr0:rest=[]:=by
   have:=hr.symm;simpa using this
  have hcap:cap=len:=by
   have:=(hrest rfl).1;rw[hr0]at this;simp at this;omega
  have hlen:es.length=len:=by rw[he,List.length_map,hel]
  have hget: ∀i d,es[i]? =some d→ ∃c' q,w.cells? 0 (a.add (i*P.cellsOf e)) (P.cellsOf e)=some c'∧DataW.trod (fun _=>()) P w 0 (fun _=>true) false n e c'=some (d,q):=by
   intro i d hd;have hi:i<len:=by
    rcases Nat.lt_or_ge i len with h1|h1
    ·exact h1
    ·rw[List.getElem?_eq_none (by omega)]at hd;cases hd
   have h1:=hall i hi;rw[he,List.getElem?_map]at hd;obtain⟨x,hx1,hx2⟩:=Option.map_eq_some_iff.1 hd;rw[hx1]at h1;obtain⟨c',h2,h3⟩:=Option.bind_eq_some_iff.1 h1;exact⟨c',x.2,h2,by rw[h3,←hx2]⟩
  obtain⟨d0,hd0⟩: ∃d0,es[0]? =some d0:=⟨es[0],List.getElem?_eq_getElem hne⟩;obtain⟨c0,q0,k1,_⟩:=hget 0 d0 hd0;have k2:=(World.cells?_some k1).2.2 0 hce;have hcl: ∃v,w.cell? a=some v:=by
   have hl:=(World.cells?_some k1).2.1;rw[Nat.zero_mul]at k2;have e1:(a.add 0).add 0=a:=rfl;rw[e1]at k2;rw[k2];exact⟨c0[0]'(by omega),List.getElem?_eq_getElem (by omega)⟩
  obtain⟨v,hv⟩:=hcl;obtain⟨hb,hs⟩:=cell_lt hv;obtain⟨b,o,s⟩:=a;simp only at hs hb;subst hs;refine⟨b,o,n,by rw[hcs,hlen,hcap],hb,fun i d hd=>?_⟩;obtain⟨c',q,j1,j2⟩:=hget i d hd;rw[addr_add]at j1;exact⟨c',q,j1,j2⟩
end
theorem pos_1 {n:Nat} (h:n=1):0<n:=by omega
theorem pos_2 {n:Nat} (h:n=2):0<n:=by omega
theorem take_get {l:List Value} {a n k:Nat} (h:k<n):((l.drop a).take n)[k]? =l[a+k]? :=by
 rw[List.getElem?_take_of_lt h,List.getElem?_drop]
theorem map_get {α β:Type} {xs:List α} {f:α→β} {ys:List β} (h:xs.map f=ys) {i:Nat} {y:β} (hy:ys[i]? =some y): ∃x,xs[i]? =some x∧f x=y:=by
 rw[←h,List.getElem?_map]at hy;exact Option.map_eq_some_iff.1 hy
theorem trod_iface_shape {P:Program} {w:World} {ms:Array (String×TypeId)} {t:TypeId} {fuel base:Nat} {sp:Nat→Bool} {held:Bool} {cs:List Value} {x:DataW Unit×List MemPlace} (ht:P.underlying t=some (.interface ms))
  (h:DataW.trod (fun _=>()) P w base sp held fuel t cs=some x):cs=[.nilIface]∨ ∃te pe,cs=[.iface te pe]:=by
 cases fuel with
 |zero=>simp[DataW.trod]at h
 |succ n=>
  unfold DataW.trod at h;rw[ht]at h;rcases cs with _|⟨v,_|⟨u,r⟩⟩
  ·simp at h
  ·cases v<;>simp_all
  ·cases v<;>simp at h
section
variable {W:World}
theorem tab_info64 (h:laidMet Tryz.prog laidL W):InfoAt W∧ ∃ca ta,W.heap[7]? =some (.cells ca ta (0,0)):=by
 obtain⟨cs,fuel,p,hc,hd,hb⟩:=laid_at h (n:= "internal/strconv.float64info") (d:=Rows.laid_internal_strconv_float64info) (.tail _ (.tail _ (.tail _ (.head _)))) (g:=7) (t:=342) (by kernel_rfl) (by kernel_rfl);obtain⟨xs,m,_,hx,hl,hxl,hall⟩:=DataW.trod_struct Tryz.underlying342 hd;have hm:xs.map (·.1)=[.lit (.int .u64 52),.lit (.int .u64 11),.lit (.int .i64 (-1023))]:=(DataW.agg.inj (Prod.mk.inj hx).1).symm;obtain⟨x0,e0,y0⟩:=map_get hm (i:=0) rfl;obtain⟨x1,e1,y1⟩:=map_get hm (i:=1) rfl;obtain⟨x2,e2,y2⟩:=map_get hm (i:=2) rfl;have f0:=int_field (off:=0) Tryz.underlying220 (by kernel_rfl) ((hall 0 _ rfl).trans e0) y0;have f1:=int_field (off:=1) Tryz.underlying220 (by kernel_rfl) ((hall 1 _ rfl).trans e1) y1;have f2:=int_field (off:=2) Tryz.underlying3 (by kernel_rfl) ((hall 2 _ rfl).trans e2) y2;have hcz:0<cs.size:=by
  have:cs.toList.length=3:=hl.trans (by kernel_rfl);rw[Array.length_toList]at this;omega
 have hcell:W.cell? ⟨7,0,none⟩=some (.int .u64 52):=(hc 0).trans (by simpa using f0);exact⟨⟨hcell,(hc 1).trans (by simpa using f1),(hc 2).trans (by simpa using f2),(cell_lt hcell).1⟩,hb 0 hcz⟩
theorem tab_info32 (h:laidMet Tryz.prog laidL W): ∃ca ta,W.heap[5]? =some (.cells ca ta (0,0)):=by
 obtain⟨cs,fuel,p,hc,hd,hb⟩:=laid_at h (n:= "internal/strconv.float32info") (d:=Rows.laid_internal_strconv_float32info) (.tail _ (.tail _ (.head _))) (g:=5) (t:=342) (by kernel_rfl) (by kernel_rfl);obtain⟨xs,m,_,hx,hl,hxl,hall⟩:=DataW.trod_struct Tryz.underlying342 hd;have hcz:0<cs.size:=by
  have:cs.toList.length=3:=hl.trans (by kernel_rfl);rw[Array.length_toList]at this;omega
 exact hb 0 hcz
theorem tab_opt (h:laidMet Tryz.prog laidL W):W.cell? ⟨6,0,none⟩=some (.bool true):=by
 obtain⟨cs,fuel,p,hc,hd,hb⟩:=laid_at h (n:= "internal/strconv.optimize") (d:=Rows.laid_internal_strconv_optimize) (.tail _ (.tail _ (.tail _ (.tail _ (.head _))))) (g:=6) (t:=4) (by kernel_rfl) (by kernel_rfl);obtain⟨b,h1,h2⟩:=DataW.trod_bool Tryz.underlying4 hd;have hb:b=true:=by
  have:=(Prod.mk.inj h2).1;simp only[Rows.laid_internal_strconv_optimize,DataW.lit.injEq,Lit.bool.injEq]at this;exact this.symm
 rw[hc 0];have:cs.toList[0]? =some (.bool b):=by rw[h1];rfl
 rw[hb]at this;simpa using this
theorem tab_rng (h:laidMet Tryz.prog laidL W): ∃ev,W.cell? ⟨4,0,none⟩=some ev∧(ev= .nilIface∨ ∃te pe,ev= .iface te pe):=by
 obtain⟨cs,fuel,p,hc,hd,hb⟩:=laid_at h (n:= "strconv.ErrRange") (d:=Rows.laid_strconv_ErrRange) (.tail _ (.tail _ (.tail _ (.tail _ (.tail _ (.tail _ (.tail _ (.tail _ (.tail _ (.head _)))))))))) (g:=4) (t:=146) (by kernel_rfl) (by kernel_rfl);rcases trod_iface_shape Tryz.underlying146 hd with h1|⟨te,pe,h1⟩
 ·have:cs.toList[0]? =some .nilIface:=by rw[h1];rfl
  exact⟨_,(hc 0).trans (by simpa using this),.inl rfl⟩
 ·have:cs.toList[0]? =some (.iface te pe):=by rw[h1];rfl
  exact⟨_,(hc 0).trans (by simpa using this),.inr ⟨_,_,rfl⟩⟩
theorem slice_var {P:Program} {l:List (String×DataW Unit)} (h:laidMet P l W) {n:String} {es:List (DataW Unit)} (hm:(n,.slice es [])∈l) {g:Nat} {t e:TypeId} (hg:P.globalNamed n=some g) (ht:(P.globals[g]?).map (·.type)=some t)
  (hu:P.underlying t=some (.slice e)) (hne:0<es.length) (hce:0<P.cellsOf e):
  ∃b o m,W.cell? ⟨g,0,none⟩=some (.slice (some ⟨b,o,none⟩) es.length es.length)∧b<W.heap.size∧ ∀i d,es[i]? =some d→ ∃c' q,W.cells? 0 ⟨b,o+i*P.cellsOf e,none⟩ (P.cellsOf e)=some c'∧DataW.trod (fun _=>()) P W 0 (fun _=>true) false m e c'=some (d,q):=by
 obtain⟨cs,fuel,p,hc,hd,_⟩:=laid_at h hm hg ht;obtain⟨b,o,m,h1,h2,h3⟩:=slice_at hu hne hce hd;refine⟨b,o,m,?_,h2,h3⟩;rw[hc 0];have:cs.toList[0]? =some (.slice (some ⟨b,o,none⟩) es.length es.length):=by rw[h1];rfl
 simpa using this
theorem tab_pow (h:laidMet Tryz.prog laidL W): ∃PW,PowAt W PW∧PW<W.heap.size:=by
 obtain⟨b,o,m,h1,h2,h3⟩:=slice_var h (n:= "internal/strconv.powtab") (.tail _ (.tail _ (.tail _ (.tail _ (.tail _ (.head _)))))) (g:=9) (t:=49) (e:=3) (by kernel_rfl) (by kernel_rfl) Tryz.underlying49 (by decide) (pos_1 (by kernel_rfl));have hce:Tryz.prog.cellsOf 3=1:=by kernel_rfl
 refine⟨b,⟨⟨o,h1,fun i hi=>?_⟩,(cell_lt h1).1,h2⟩,h2⟩;have hd: ∃d:DataW Unit,[.lit (.int .i64 1),.lit (.int .i64 3),.lit (.int .i64 6),.lit (.int .i64 9),.lit (.int .i64 13),.lit (.int .i64 16),.lit (.int .i64 19),.lit (.int .i64 23),.lit (.int .i64 26)][i]? =some d∧d= .lit (.int .i64 (powT i:Int)):=by
  have:i=0∨i=1∨i=2∨i=3∨i=4∨i=5∨i=6∨i=7∨i=8:=by omega
  rcases this with rfl|rfl|rfl|rfl|rfl|rfl|rfl|rfl|rfl<;>exact⟨_,rfl,rfl⟩
 obtain⟨d,hd1,hd2⟩:=hd;obtain⟨c',q,k1,k2⟩:=h3 i d hd1;obtain⟨z,j1,j2,_⟩:=DataW.trod_int Tryz.underlying3 k2;have hz:z=(powT i:Int):=by
  have:=(Prod.mk.inj j2).1;rw[hd2]at this;simp only[DataW.lit.injEq,Lit.int.injEq,true_and]at this;exact this.symm
 rw[hce,Nat.mul_one,j1,hz]at k1;exact cell_of_cells?_one k1
theorem tab_f10 (h:laidMet Tryz.prog laidL W): ∃b o c,b<W.heap.size∧W.cell? ⟨10,0,none⟩=some (.slice (some ⟨b,o,none⟩) 23 c)∧ ∀k,k<23→W.cell? ⟨b,o+k,none⟩=some (.float .f64 (p10W k)):=by
 obtain⟨b,o,m,h1,h2,h3⟩:=slice_var h (n:= "internal/strconv.float64pow10") (es:=p10F.map fun n=>.lit (.float .f64 n)) (.tail _ (.tail _ (.tail _ (.tail _ (.tail _ (.tail _ (.head _))))))) (g:=10) (t:=373) (e:=210) (by kernel_rfl) (by kernel_rfl) Tryz.underlying373 (by decide) (pos_1 (by kernel_rfl));have hce:Tryz.prog.cellsOf 210=1:=by kernel_rfl
 refine⟨b,o,23,h2,h1,fun k hk=>?_⟩;have hk2:k<p10F.length:=hk;have hd1:(p10F.map fun n=>(DataW.lit (.float .f64 n):DataW Unit))[k]? =some (.lit (.float .f64 (p10W k))):=by
  rw[List.getElem?_map,List.getElem?_eq_getElem hk2,p10W,List.getD_eq_getElem?_getD,List.getElem?_eq_getElem hk2];rfl
 obtain⟨c',q,k1,k2⟩:=h3 k _ hd1;obtain⟨z,j1,j2⟩:=trod_float' Tryz.underlying210 k2;have hz:z=p10W k:=by
  have:=(Prod.mk.inj j2).1;simp only[DataW.lit.injEq,Lit.float.injEq,true_and]at this;exact this.symm
 rw[hce,Nat.mul_one,j1,hz]at k1;exact cell_of_cells?_one k1
theorem tab_cheat (h:laidMet Tryz.prog laidL W): ∃C,CheatAt W C∧C<W.heap.size:=by
 obtain⟨b,o,m,h1,h2,h3⟩:=slice_var h (n:= "internal/strconv.leftcheats") (es:=Go.Pinned.cheatRows.map fun x=>.agg [.lit (.int .i64 x.1),.lit (.string x.2)]) (.tail _ (.tail _ (.tail _ (.tail _ (.tail _ (.tail _ (.tail _ (.tail _ (.tail _ (.tail _ (.tail _ (.head _)))))))))))) (g:=12) (t:=389) (e:=388) (by kernel_rfl) (by kernel_rfl) Tryz.underlying389 (by decide) (pos_2 (by kernel_rfl));have hce:Tryz.prog.cellsOf 388=2:=by kernel_rfl
 refine⟨b,⟨⟨o,h1,fun k hk=>?_⟩,(cell_lt h1).1,h2⟩,h2⟩;have hk2:k<Go.Pinned.cheatRows.length:=hk;have hd1:(Go.Pinned.cheatRows.map fun x=>(DataW.agg [.lit (.int .i64 x.1),.lit (.string x.2)]:DataW Unit))[k]? =some (.agg [.lit (.int .i64 (chD k:Int)),.lit (.string (chS k))]):=by
  rw[List.getElem?_map,List.getElem?_eq_getElem hk2,chD,chS,List.getD_eq_getElem?_getD,List.getElem?_eq_getElem hk2];rfl
 obtain⟨c',q,k1,k2⟩:=h3 k _ hd1;rw[hce]at k1;have hcl:=(World.cells?_some k1).2.2;obtain⟨xs,n,_,hx,hl,hxl,hall⟩:=DataW.trod_struct Tryz.underlying388 k2;have hm:xs.map (·.1)=[.lit (.int .i64 (chD k:Int)),.lit (.string (chS k))]:=(DataW.agg.inj (Prod.mk.inj hx).1).symm;obtain⟨x0,e0,y0⟩:=map_get hm (i:=0) rfl;obtain⟨x1,e1,y1⟩:=map_get hm (i:=1) rfl;have f0:=int_field (off:=0) Tryz.underlying3 (by kernel_rfl) ((hall 0 _ rfl).trans e0) y0;have f1:=str_field (off:=1) Tryz.underlying9 (by kernel_rfl) ((hall 1 _ rfl).trans e1) y1;constructor
 ·exact(hcl 0 (by omega)).trans f0
 ·have:=hcl 1 (by omega);rw[addr_add]at this;exact this.trans f1
theorem tab_pow10 (h:laidMet Tryz.prog laidL W): ∀p:Int,-345≤p∧p≤310→W.cell? ⟨11,(p+348).toNat*2,none⟩=some (.int .u64 (powHi p:Int))∧W.cell? ⟨11,(p+348).toNat*2+1,none⟩=some (.int .u64 (powLo p:Int)):=by
 obtain⟨cs,fuel,p,hc,hd,hb⟩:=laid_at h (n:= "internal/strconv.pow10Tab") (d:=Rows.laid_internal_strconv_pow10Tab) (.tail _ (.tail _ (.tail _ (.tail _ (.tail _ (.tail _ (.tail _ (.tail _ (.tail _ (.tail _ (.tail _ (.tail _ (.head _))))))))))))) (g:=11) (t:=378) (by kernel_rfl) (by kernel_rfl);obtain⟨xs,m,_,hx,hl,hxl,hall⟩:=DataW.trod_array Tryz.underlying378 hd;have hm:xs.map (·.1)=Go.Pinned.pow10Rows.map fun x=>(.agg [.lit (.int .u64 x.1),.lit (.int .u64 x.2)]:DataW Unit):=(DataW.agg.inj (Prod.mk.inj hx).1).symm
 have hce:Tryz.prog.cellsOf 377=2:=by kernel_rfl
 intro p hp;obtain⟨i,hi⟩: ∃i,i=(p+348).toNat:=⟨_,rfl⟩;have hi696:i<696:=by omega
 have hil:i<Go.Pinned.pow10Rows.length:=by rw[pow10_len];exact hi696
 rw[powHi,powLo,←hi];obtain⟨x,ex,yx⟩:=map_get hm (i:=i) (y:=.agg [.lit (.int .u64 ((Go.Pinned.pow10Rows.getD i (0,0)).1:Int)),.lit (.int .u64 ((Go.Pinned.pow10Rows.getD i (0,0)).2:Int))]) (by
  rw[List.getElem?_map,List.getElem?_eq_getElem hil,List.getD_eq_getElem?_getD,List.getElem?_eq_getElem hil];rfl)
 have hE:=(hall i hi696).trans ex;rw[hce]at hE;obtain⟨x1,x2⟩:=x;simp only at yx;subst yx;obtain⟨ys,n,_,hy,_,_,hall2⟩:=DataW.trod_struct Tryz.underlying377 hE;have hm2:ys.map (·.1)=[.lit (.int .u64 ((Go.Pinned.pow10Rows.getD i (0,0)).1:Int)),.lit (.int .u64 ((Go.Pinned.pow10Rows.getD i (0,0)).2:Int))]:=(DataW.agg.inj (Prod.mk.inj hy).1).symm;obtain⟨u0,e0,y0⟩:=map_get hm2 (i:=0) rfl;obtain⟨u1,e1,y1⟩:=map_get hm2 (i:=1) rfl;have f0:=int_field (off:=0) Tryz.underlying252 (by kernel_rfl) ((hall2 0 _ rfl).trans e0) y0;have f1:=int_field (off:=1) Tryz.underlying252 (by kernel_rfl) ((hall2 1 _ rfl).trans e1) y1;rw[take_get (by omega)]at f0 f1;exact⟨(hc _).trans (by simpa using f0),(hc _).trans (by simpa using f1)⟩
theorem tabs_laid (h:laidMetH Tryz.prog laidL W):NumTab W.heap.size W:=by
 rw[MakeChecks.laidMetH_plain _ _ _ (by kernel_rfl)]at h;obtain⟨i1,i2⟩:=tab_info64 h;have i3:=tab_info32 h;have o:=tab_opt h;obtain⟨ev,r1,r2⟩:=tab_rng h;obtain⟨PW,p1,p2⟩:=tab_pow h;obtain⟨b,ob,c,f1,f2,f3⟩:=tab_f10 h;obtain⟨C,c1,c2⟩:=tab_cheat h;have t:=tab_pow10 h;have l32:5<W.heap.size:=by
  obtain⟨ca,ta,hh⟩:=i3;rcases Nat.lt_or_ge 5 W.heap.size with h1|h1
  ·exact h1
  ·rw[Array.getElem?_eq_none h1]at hh;cases hh
 exact⟨i1,⟨i2,i3⟩,⟨PW,p1,p2⟩,⟨C,c1,c2⟩,o,t,⟨b,ob,c,f1,f2,f3⟩,⟨ev,r1,r2⟩,⟨i1.lt,l32,p1.lt0,c1.lt0,(cell_lt o).1,(cell_lt (t 0 (by omega)).1).1,(cell_lt f2).1,(cell_lt r1).1⟩,Nat.le_refl _⟩
end
end Go.Proofs.YtibcjfjacielbaaGreatDoor
