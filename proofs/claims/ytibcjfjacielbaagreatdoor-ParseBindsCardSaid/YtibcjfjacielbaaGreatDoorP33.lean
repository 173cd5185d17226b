import Derived.Test.YtibcjfjacielbaaGreatDoorP29
import Derived.Test.YtibcjfjacielbaaGreatDoorP30
import Derived.OwnWalkIn
import Derived.TacticsInMore
import Derived.RegionIn
import Derived.LoopIn
import Derived.RangeFuncNested
import Derived.RangeFuncBound
import Derived.RangeFuncCalls
import Derived.RangeFuncLeaves
import Derived.Test.YtibcjfjacielbaaGreatDoorP31
import Derived.Test.YtibcjfjacielbaaGreatDoorP32
/- Part of the proof of YtibcjfjacielbaaGreatDoorCardP: TrJb PaG PaH TrN TrR PaI PaJ PaK PaL PaM PaN PaO PaP PaQ. -/
set_option maxRecDepth 100000
set_option maxHeartbeats 4000000
set_option linter.unusedVariables false
set_option linter.unusedSimpArgs false
namespace Go.Proofs.YtibcjfjacielbaaGreatDoor
open Go.RowKit
def Agree (b:Nat) (w w':World):Prop:=w.heap.size≤w'.heap.size∧ ∀k,b≤k→k<w.heap.size→w'.heap[k]? =w.heap[k]?
theorem Agree.cell {b:Nat} {w w':World} (h:Agree b w w') {g o:Nat} (hb:b≤g) (hg:g<w.heap.size):w'.cell? ⟨g,o,none⟩=w.cell? ⟨g,o,none⟩:=World.cell?_of_block (h.2 g hb hg)
theorem Agree.refl (b:Nat) (w:World):Agree b w w:=⟨Nat.le_refl _,fun _ _ _=>rfl⟩
theorem Agree.below {b:Nat} {w w' w'':World} (h:Agree b w w') (hb:Below w'.heap.size w' w''):Agree b w w'':=⟨Nat.le_trans h.1 hb.size,fun k h1 h2=>(hb.block k (Nat.lt_of_lt_of_le h2 h.1)).trans (h.2 k h1 h2)⟩
theorem StrS.agree {b:Nat} {w w':World} {v:Value} {ss:List ByteArray} (h:StrS b w v ss) (hB:Agree b w w'):StrS b w' v ss:=by
 obtain⟨ao,c,h1,h2⟩:=h;refine⟨ao,c,h1,fun j hj=>?_⟩;obtain⟨g,o,a,l,u,x⟩:=h2 j hj;exact⟨g,o,a,l,Nat.lt_of_lt_of_le u hB.1,(hB.cell l u).trans x⟩
theorem MatS.agree {b:Nat} {w w':World} {v:Value} {ms:List PM} (h:MatS b w v ms) (hB:Agree b w w'):MatS b w' v ms:=by
 obtain⟨ao,c,h1,h2⟩:=h;refine⟨ao,c,h1,fun j hj=>?_⟩;obtain⟨g,o,a,l,u,x,y,z⟩:=h2 j hj;exact⟨g,o,a,l,Nat.lt_of_lt_of_le u hB.1,(hB.cell l u).trans x,(hB.cell l u).trans y,(hB.cell l u).trans z⟩
theorem ExpS.agree {b:Nat} {w w':World} {v:Value} {ks:List Value} (h:ExpS b w v ks) (hB:Agree b w w'):ExpS b w' v ks:=by
 obtain⟨ao,c,h1,h2⟩:=h;refine⟨ao,c,h1,fun j hj=>?_⟩;obtain⟨g,o,a,l,u,x⟩:=h2 j hj;exact⟨g,o,a,l,Nat.lt_of_lt_of_le u hB.1,(hB.cell l u).trans x⟩
theorem NodeAt.agree {b:Nat} {w w':World} {v:Value} {r:PR} {ks:List Value} (h:NodeAt b w v r ks) (hB:Agree b w w'):NodeAt b w' v r ks:=by
 cases h with
 |number g hb hg t c0=>exact .number g hb (Nat.lt_of_lt_of_le hg hB.1) t ((hB.cell hb hg).trans c0)
 |text g hb hg t c0=>exact .text g hb (Nat.lt_of_lt_of_le hg hB.1) t ((hB.cell hb hg).trans c0)
 |selector g hb hg t off tim vm ms hm c0 c1 c2 c3=>exact .selector g hb (Nat.lt_of_lt_of_le hg hB.1) t off tim vm ms (hm.agree hB) ((hB.cell hb hg).trans c0) ((hB.cell hb hg).trans c1) ((hB.cell hb hg).trans c2) ((hB.cell hb hg).trans c3)
 |range g hb hg d p c0 c1=>exact .range g hb (Nat.lt_of_lt_of_le hg hB.1) d p ((hB.cell hb hg).trans c0) ((hB.cell hb hg).trans c1)
 |subquery g hb hg d s off tim t x c0 c1 c2 c3 c4=>exact .subquery g hb (Nat.lt_of_lt_of_le hg hB.1) d s off tim t x ((hB.cell hb hg).trans c0) ((hB.cell hb hg).trans c1) ((hB.cell hb hg).trans c2) ((hB.cell hb hg).trans c3) ((hB.cell hb hg).trans c4)
 |unary g hb hg o t x c0 c1=>exact .unary g hb (Nat.lt_of_lt_of_le hg hB.1) o t x ((hB.cell hb hg).trans c0) ((hB.cell hb hg).trans c1)
 |binary g hb hg o t u x y bo gi on vl vi ls inc card hl hi c0 c1 c2 c3 c4 c5 c6 c7 c8=>exact .binary g hb (Nat.lt_of_lt_of_le hg hB.1) o t u x y bo gi on vl vi ls inc card (hl.agree hB) (hi.agree hB) ((hB.cell hb hg).trans c0) ((hB.cell hb hg).trans c1) ((hB.cell hb hg).trans c2) ((hB.cell hb hg).trans c3) ((hB.cell hb hg).trans c4) ((hB.cell hb hg).trans c5) ((hB.cell hb hg).trans c6) ((hB.cell hb hg).trans c7) ((hB.cell hb hg).trans c8)
 |call g hb hg o va ks hk c0 c1=>exact .call g hb (Nat.lt_of_lt_of_le hg hB.1) o va ks (hk.agree hB) ((hB.cell hb hg).trans c0) ((hB.cell hb hg).trans c1)
 |aggr g hb hg o t x wo vl ls hl c0 c1 c2 c3 c4=>exact .aggr g hb (Nat.lt_of_lt_of_le hg hB.1) o t x wo vl ls (hl.agree hB) ((hB.cell hb hg).trans c0) ((hB.cell hb hg).trans c1) ((hB.cell hb hg).trans c2) ((hB.cell hb hg).trans c3) ((hB.cell hb hg).trans c4)
 |aggr2 g hb hg o t u x y wo vl ls hl c0 c1 c2 c3 c4=>exact .aggr2 g hb (Nat.lt_of_lt_of_le hg hB.1) o t u x y wo vl ls (hl.agree hB) ((hB.cell hb hg).trans c0) ((hB.cell hb hg).trans c1) ((hB.cell hb hg).trans c2) ((hB.cell hb hg).trans c3) ((hB.cell hb hg).trans c4)
theorem TreeAt.agree {b:Nat} {w w':World} (hB:Agree b w w') {d:Nat} {v:Value} {L:List (Nat×PR)} (h:TreeAt b w d v L):TreeAt b w' d v L:=by
 induction h with
 |mk d v r ks segs h0 _ ih=>exact .mk d v r ks segs (h0.agree hB) fun i hi=>ih i hi
structure Nd (S:Nat→Prop) (W:World) (v:Value) (r:PR) (ks:List Value):Prop where
 at_: ∃g t cs,S g∧Blk W g t cs∧ ∀W',Blk W' g t cs→NodeAt g W' v r ks
inductive TT (S:Nat→Prop) (W:World):Value→List PR→Prop
 |leaf (v:Value) (r:PR) (h:Nd S W v r []):TT S W v [r]
 |un (v k:Value) (r:PR) (rs:List PR) (h:Nd S W v r [k]) (hk:TT S W k rs):TT S W v (r::rs)
 |bin (v k1 k2:Value) (r:PR) (rs1 rs2:List PR) (h:Nd S W v r [k1,k2]) (h1:TT S W k1 rs1) (h2:TT S W k2 rs2):TT S W v (r::(rs1++rs2))
theorem Nd.to {S S':Nat→Prop} {W W':World} {v:Value} {r:PR} {ks:List Value} (h:Nd S W v r ks) (hS: ∀g,S g→g<W.heap.size→S' g∧W'.heap[g]? =W.heap[g]?):Nd S' W' v r ks:=by
 obtain⟨g,t,cs,hs,hz,hn⟩:=h.at_;exact⟨g,t,cs,(hS g hs hz.lt).1,(hS g hs hz.lt).2.trans hz,hn⟩
theorem TT.to {S S':Nat→Prop} {W W':World} {v:Value} {rs:List PR} (h:TT S W v rs) (hS: ∀g,S g→g<W.heap.size→S' g∧W'.heap[g]? =W.heap[g]?):TT S' W' v rs:=by
 induction h with
 |leaf v r h=>exact .leaf v r (h.to hS)
 |un v k r rs h _ ih=>exact .un v k r rs (h.to hS) ih
 |bin v k1 k2 r rs1 rs2 h _ _ ih1 ih2=>exact .bin v k1 k2 r rs1 rs2 (h.to hS) ih1 ih2
theorem Nd.node {S:Nat→Prop} {B:Nat} {W:World} {v:Value} {r:PR} {ks:List Value} (h:Nd S W v r ks) (hS: ∀g,S g→B≤g):NodeAt B W v r ks:=by
 obtain⟨g,t,cs,hs,hz,hn⟩:=h.at_;exact(hn W hz).lo (hS g hs)
theorem TT.tree {S:Nat→Prop} {B:Nat} {W:World} {v:Value} {rs:List PR} (h:TT S W v rs) (hS: ∀g,S g→B≤g): ∀d,∃L,TreeAt B W d v L∧L.map (·.2)=rs:=by
 induction h with
 |leaf v r h=>exact fun d=>⟨_,.mk d v r [] (fun _=>[]) (h.node hS) (fun i hi=>by simp at hi),rfl⟩
 |un v k r rs h _ hk=>
  intro d;obtain⟨L,h1,h2⟩:=hk (d+1);refine⟨_,.mk d v r [k] (fun _=>L) (h.node hS) (fun i hi=>?_),?_⟩
  ·have h0:i=0:=by simpa using hi
   subst h0;exact h1
  ·simp[h2]
 |bin v k1 k2 r rs1 rs2 h _ _ h1 h2=>
  intro d;obtain⟨L1,a1,b1⟩:=h1 (d+1);obtain⟨L2,a2,b2⟩:=h2 (d+1);refine⟨_,.mk d v r [k1,k2] (fun i=>if i=0 then L1 else L2) (h.node hS) (fun i hi=>?_),?_⟩
  ·have hi2:i=0∨i=1:=by simp at hi;omega
   rcases hi2 with rfl|rfl
   ·exact a1
   ·exact a2
  ·simp[List.range_succ,b1,b2]
def TA (B:Nat) (W:World) (v:Value) (rs:List PR):Prop:=TT (fun g=>B≤g) W v rs
theorem TA.agree {B:Nat} {W W':World} {v:Value} {rs:List PR} (h:TA B W v rs) (ha:Agree B W W'):TA B W' v rs:=TT.to h fun g h1 h2=>⟨h1,ha.2 g h1 h2⟩
theorem TA.lo {B b:Nat} {W:World} {v:Value} {rs:List PR} (h:TA B W v rs) (hb:b≤B):TA b W v rs:=TT.to h fun _ h1 _=>⟨Nat.le_trans hb h1,rfl⟩
theorem agree_grown {p B:Nat} {W W':World} (hg:W.grownBy W' (some p)) (hp:p<B):Agree B W W':=⟨hg.size,fun k h1 h2=>hg.block k h2 (by intro e;injection e;omega)⟩
def PPost (w0:World) (p:Nat) (tv:Value) (en:Nat) (W:World) (x:Th) (k o:Nat) (e:Ending) (W':World):Prop:=
 ∃t:TV,e= .returned t.v∧t.one∧(∃tt g,t.x= .iface tt (.pointer (some ⟨g,0,none⟩)))∧t.d=x.deep∧TA W.heap.size W' t.x x.rows∧Went w0 p tv en k o W W'
theorem pars_rest: ∀(n:Nat) (m:Mode) (ts:List Tok) (o:Nat) (x:Th) (r:List Tok) (o':Nat),pars n m ts o=some (x,r,o')→o≤300→(∃j,j≤ts.length∧r=ts.drop j)∧o'≤300:=by
 have tr: ∀{ts ts1 r:List Tok},(∃j,j≤ts.length∧ts1=ts.drop j)→(∃j,j≤ts1.length∧r=ts1.drop j)→ ∃j,j≤ts.length∧r=ts.drop j:=by
  rintro ts ts1 r ⟨j,hj,rfl⟩ ⟨i,hi,rfl⟩;exact⟨j+i,by rw[List.length_drop]at hi;omega,by rw[List.drop_drop]⟩
 have one: ∀{ts:List Tok},ts≠[]→ ∃j,j≤ts.length∧ts.drop 1=ts.drop j:=fun {ts} h=>⟨1,List.length_pos_iff.2 h,rfl⟩
 have isn: ∀{s:List UInt8} {ts:List Tok},isO s ts=true→ts≠[]:=by
  rintro s ts h rfl;simp[isO,tk0]at h
 intro n;induction n with
 |zero=>intro m ts o x r o' h;simp[pars]at h
 |succ n ih=>
  intro m ts o x r o' h ho;cases m with
  |bin least=>
   simp only[pars]at h;split at h
   ·cases h
   ·rename_i x1 ts1 o1 h1;have a:=ih _ _ _ _ _ _ h1 ho;have b:=ih _ _ _ _ _ _ h a.2;exact⟨tr a.1 b.1,b.2⟩
  |loop least y=>
   simp only[pars]at h;split at h
   ·injection h with h;injection h with h1 h2;injection h2 with h2 h3
    exact⟨⟨0,Nat.zero_le _,by rw[List.drop_zero,h2]⟩,by omega⟩
   ·rename_i hb;have hne:ts≠[]:=by
     rintro rfl;exact hb (.inr rfl)
    split at h
    ·cases h
    ·split at h
     ·cases h
     ·rename_i y1 ts2 o2 h1;have a:=ih _ _ _ _ _ _ h1 ho;split at h
      ·cases h
      ·have b:=ih _ _ _ _ _ _ h a.2;exact⟨tr (tr (one hne) a.1) b.1,b.2⟩
  |una=>
   simp only[pars]at h;split at h
   ·rename_i hs;have hne:ts≠[]:=by rcases hs with hs|hs<;>exact isn hs
    split at h
    ·cases h
    ·rename_i x1 ts1 o1 h1;have a:=ih _ _ _ _ _ _ h1 ho;split at h
     ·cases h
     ·injection h with h;injection h with h1' h2;injection h2 with h2 h3
      subst h2 h3;exact⟨tr (one hne) a.1,a.2⟩
   ·exact ih _ _ _ _ _ _ h ho
  |pow=>
   simp only[pars]at h;split at h
   ·cases h
   ·rename_i x1 ts1 o1 h1;have a:=ih _ _ _ _ _ _ h1 ho;split at h
    ·cases h
    ·split at h
     ·injection h with h;injection h with h1' h2;injection h2 with h2 h3
      subst h2 h3;exact a
     ·rename_i h94;have hne:ts1≠[]:=isn (s:=[94]) (by simpa using h94);split at h
      ·cases h
      ·split at h
       ·cases h
       ·rename_i y ts2 o2 h2';have b:=ih _ _ _ _ _ _ h2' a.2;split at h
        ·cases h
        ·injection h with h;injection h with h1' h2;injection h2 with h2 h3
         subst h2 h3;exact⟨tr a.1 (tr (one hne) b.1),b.2⟩
  |prim=>
   simp only[pars]at h;split at h
   ·rename_i hk;have hne:ts≠[]:=by rintro rfl;simp[tk0]at hk
    injection h with h;injection h with h1' h2;injection h2 with h2 h3
    subst h2 h3;exact⟨one hne,ho⟩
   ·split at h
    ·rename_i h40;split at h
     ·cases h
     ·split at h
      ·cases h
      ·rename_i x1 ts1 o1 h1;have a:=ih _ _ _ _ _ _ h1 (by omega);split at h
       ·rename_i h41;injection h with h;injection h with h1' h2;injection h2 with h2 h3
        subst h2 h3;exact⟨tr (tr (one (isn h40)) a.1) (one (isn h41.1)),by omega⟩
       ·cases h
    ·split at h
     ·rename_i hp;have hne:ts≠[]:=by rintro rfl;simp[plainN,tk0]at hp
      injection h with h;injection h with h1' h2;injection h2 with h2 h3
      subst h2 h3;exact⟨one hne,ho⟩
     ·cases h
structure PH (w0:World) (p:Nat) (tv:Value) (ts:List Tok):Prop where
 hp:w0.heap.size≤p
 toks:TS w0 tv ts
 short:Short ts
theorem pa_step {W W3 W5 W6:World} {p:Nat} (h1:Below W.heap.size W W3) (h2:W3.grownBy W5 (some p)) (h3:W5.grownBy W6 (some W.heap.size)):W.grownBy W6 (some p):=
 node_grown2 (grow_trans (grown_below h1 _) h2) h3
theorem PS.grow {w0 W W':World} {p en k o q:Nat} {tv:Value} (h:PS w0 p tv en k o W) (hg:W.grownBy W' (some q)) (hq:p≠q) (hw:w0.heap.size≤q):PS w0 p tv en k o W':=
 ⟨h.z.grown hg (by simpa using hq),h.b.grown hg h.b.size (fun r hr=>by injection hr with hr;omega)⟩
def zThing:Array Value:=#[.nilIface,.int .i64 0,.pointer none,.pointer none]
theorem pa_num {w0 W:World} {p en k o:Nat} {tv:Value} {ts:List Tok} (H:PH w0 p tv ts) (hs:PS w0 p tv en k o W) (hk:k<ts.length) (h:tk0 (ts.drop k)=3∨tk0 (ts.drop k)=4):
  Calls Tryz.prog 273 #[pV p] W (PPost w0 p tv en W ⟨[rNum (tx0 (ts.drop k))],1⟩ (k+1) o):=by
 have hkl:=H.toks.len;obtain⟨W1,hW1⟩: ∃W1,W1=W.alloc (.cells #[.nilIface,.int .i64 0,.pointer none,.pointer none] 96):=⟨_,rfl⟩;have hb1:Below W.heap.size W W1:=by rw[hW1];exact(Below.refl _ W).alloc (Nat.le_refl _) _
 have hz1:Blk W1 W.heap.size 96 zThing:=by rw[hW1];exact Blk.new _ _ _
 have HPK:=Lib.hid (pa_peek (hs.below hb1) H.toks (Nat.le_of_lt hk));have HW1:=Lib.hid hW1;have HB1:=Lib.hid hb1;have HZ1:=Lib.hid hz1;have HS:=Lib.hid hs;have HH:=Lib.hid H;obtain⟨cur,hcur⟩: ∃cur,cur=ts.drop k:=⟨_,rfl⟩;rw[←hcur]at HPK h ⊢
 have hpl:=hs.z.lt;clear hW1 hb1 hz1 hs H hcur;simp only[pV]at HPK ⊢
 go_enter Tryz.func273,Tryz.ntmps273;go_upto_region 1 with(fail)
 rw[←HW1.out];go_wp2_with fail;refine HPK.out.mono ?_;rintro e W2 ⟨rfl,hb2⟩;have HB2:Hid (Below W.heap.size W W2):=Lib.hid (HB1.out.trans (hb2.mono HB1.out.size));have HZ2:Hid (Blk W2 W.heap.size 96 zThing):=Lib.hid (HZ1.out.below hb2 HZ1.out.lt);simp only[peekV];clear hb2;go_wp2_with (refine wpList_store_blk rfl 81 (.tmp 3) (.tmp 6) rfl W2.heap.size _ rfl rfl (Blk.new _ _ _) info_tok3 rfl rfl ?_);intro W3 hz3 hg3;have hb3:Below W2.heap.size W2 W3:=below_grow ((Below.refl W2.heap.size W2).alloc (Nat.le_refl _) _) hg3 (by simp) (Nat.le_refl _);have HB3:Hid (Below W.heap.size W W3):=Lib.hid (HB2.out.trans (hb3.mono HB2.out.size));have HZ3:Hid (Blk W3 W.heap.size 96 zThing):=Lib.hid (HZ2.out.below hb3 HZ2.out.lt);have hs3:=HS.out.below HB3.out;have hp2:p<W2.heap.size:=Nat.lt_of_lt_of_le hpl HB2.out.size;have c0:W3.cell? ⟨W2.heap.size,0,none⟩=some (.int .i64 (tk0 cur:Int)):=hz3.cell 0;have k1:W3.cell? ⟨p,1,none⟩=some (.int .i64 (k:Int)):=hs3.z.cell 1;have f1:=hs3.z.frozen 1;obtain⟨ha,hga⟩:=hs3.set1 (k':=k+1) HH.out.hp;rw[show ((k+1:Nat):Int)=(k:Int)+1 by omega]at ha hga;have hz3':=hz3.far (p:=⟨p,1,none⟩) (by show W2.heap.size≠p;omega) (.int .i64 ((k:Int)+1));have hz1':=HZ3.out.far (p:=⟨p,1,none⟩) (by show W.heap.size≠p;omega) (.int .i64 ((k:Int)+1));have c1':(W3.setCell ⟨p,1,none⟩ (.int .i64 ((k:Int)+1))).cell? ⟨W2.heap.size,1,none⟩=some (.string (txB cur)):=hz3'.cell 1;have HA:=Lib.hid ha;have HGA:=Lib.hid hga;have HZ1':=Lib.hid hz1';have p1:(((tk0 cur:Int)==3)=true)∨(((tk0 cur:Int)==3)=false∧((tk0 cur:Int)==4)=true):=by
  rcases h with h|h
  ·exact .inl (by rw[h];rfl)
  ·exact .inr (by rw[h];exact⟨rfl,rfl⟩)
 clear h hz3 hg3 hb3 hs3 ha hga hz3' hz1';have HFIN:Hid (∀W5 W6,Below ((W3.setCell ⟨p,1,none⟩ (.int .i64 ((k:Int)+1))).alloc (.cells #[.string (txB cur)] 166)).heap.size ((W3.setCell ⟨p,1,none⟩ (.int .i64 ((k:Int)+1))).alloc (.cells #[.string (txB cur)] 166)) W5→W5.grownBy W6 (some W.heap.size)→PPost w0 p tv en W ⟨[rNum (tx0 cur)],1⟩ (k+1) o (.returned (.agg #[.iface 164 (.pointer (some ⟨W3.heap.size,0,none⟩)),.int .i64 1,.pointer none,.pointer none])) W6):=Lib.hid fun W5 W6 hb5 hg6=>by
  obtain⟨W4,hW4⟩: ∃W4,W4=W3.setCell ⟨p,1,none⟩ (.int .i64 ((k:Int)+1)):=⟨_,rfl⟩;have hA:=HA.out;have hGA:=HGA.out;have hsz:W4.heap.size=W3.heap.size:=by rw[hW4];simp
  rw[←hW4]at hb5 hA hGA;have hzn:=Blk.new W4 166 #[.string (txB cur)];have hbn:Below W4.heap.size W4 (W4.alloc (.cells #[.string (txB cur)] 166)):=(Below.refl _ _).alloc (Nat.le_refl _) _;have hz6:Blk W6 W4.heap.size 166 #[.string (txB cur)]:=(hzn.below hb5 hzn.lt).grown hg6 (by have:=HB3.out.size;have:=HZ3.out.lt;simp;omega);have hb45:Below W4.heap.size W4 W5:=hbn.trans (hb5.mono hbn.size);have hs5:=hA.below hb45;rw[←hsz];refine⟨⟨_,1,_,_⟩,rfl,⟨rfl,rfl,rfl⟩,⟨_,_,rfl⟩,rfl,TT.leaf _ _ ⟨_,_,_,(by have:=HB3.out.size;show W.heap.size≤W4.heap.size;omega),hz6,fun _ h=>.number _ (Nat.le_refl _) h.lt (txB cur) (h.cell 0)⟩,?_,?_⟩
  ·exact hs5.grow hg6 (by omega) (by have:=HH.out.hp;omega)
  ·exact pa_step HB3.out (grow_trans hGA (grown_below hb45 _)) hg6
 rcases p1 with p1|⟨p1,p1'⟩
 all_goals
  go_wp2_with fail;refine(pa_leaf (.inl rfl)).mono ?_;rintro e W5 ⟨rfl,hb5⟩;have HB5:=Lib.hid hb5;have HZ5:Hid (Blk W5 W.heap.size 96 zThing):=Lib.hid ((HZ1'.out.alloc _).below hb5 (by have:=HZ1'.out.lt;simp at this ⊢;omega));simp only[TV.v];clear hb5;go_wp2_with (refine wpList_store_blk rfl 96 (.tmp 2) (.tmp 28) rfl W.heap.size _ rfl rfl HZ5.out info_thing rfl rfl ?_);intro W6 hz6 hg6;have HZ6:=Lib.hid hz6;have HF:=Lib.hid (HFIN.out W5 W6 HB5.out hg6);clear hz6 hg6;go_wp2_with fail;exact bodyPost_ret (results_blk Tryz.results273 rfl HZ6.out Tryz.underlying96 info_thing) rfl (by simpa using HF.out)
structure SmB where
 s:ByteArray
 h:s.size≤1048576
structure SmM where
 m:PM
 h:m.name.size≤1048576∧m.value.size≤1048576
instance:Inhabited SmB:=⟨⟨⟨#[]⟩,by decide⟩⟩
instance:Inhabited SmM:=⟨⟨⟨⟨#[]⟩,0,⟨#[]⟩⟩,by decide,by decide⟩⟩
theorem strS_none (b:Nat) (w:World):StrS b w (.slice none 0 0) []:=⟨none,0,rfl,fun j h=>absurd h (by simp)⟩
theorem matS_none (b:Nat) (w:World):MatS b w (.slice none 0 0) []:=⟨none,0,rfl,fun j h=>absurd h (by simp)⟩
theorem grown_off {W Wa Wb:World} {r:Option Nat} {q:Nat} (h1:W.grownBy Wa r) (h2:Wa.grownBy Wb (some q)) (hq:W.heap.size≤q):W.grownBy Wb r:=
 ⟨h2.os.trans h1.os,h2.tape.trans h1.tape,h2.output.trans h1.output,Nat.le_trans h1.size h2.size,fun k hk hne=>(h2.block k (Nat.lt_of_lt_of_le hk h1.size) (by intro e;injection e;omega)).trans (h1.block k hk hne)⟩
theorem pa_sel {w0 W:World} {p en k o:Nat} {tv:Value} {ts:List Tok} (H:PH w0 p tv ts) (hs:PS w0 p tv en k o W) (hk:k<ts.length) (hm:metB (ts.drop k)=true) (h:isO [123] (ts.drop (k+1))=false):
  Calls Tryz.prog 56 #[pV p] W (PPost w0 p tv en W ⟨[rSel (tx0 (ts.drop k))],1⟩ (k+1) o):=by
 have hkl:=H.toks.len;have fl:=fld1;obtain⟨W1,hW1⟩: ∃W1,W1=(W.alloc (.cells #[.nilIface,.int .i64 0,.pointer none,.pointer none] 96)).alloc (.cells #[.string ⟨#[]⟩,.slice none 0 0,.string ⟨#[]⟩,.string ⟨#[]⟩] 36):=⟨_,rfl⟩;have hb1:Below W.heap.size W W1:=by rw[hW1];exact((Below.refl _ W).alloc (Nat.le_refl _) _).alloc (by simp) _
 have hz1:Blk W1 W.heap.size 96 zThing:=by rw[hW1];exact(Blk.new _ _ _).alloc _
 have hzg:Blk W1 (W.heap.size+1) 36 #[.string ⟨#[]⟩,.slice none 0 0,.string ⟨#[]⟩,.string ⟨#[]⟩]:=by
  rw[hW1];have:=Blk.new (W.alloc (.cells #[.nilIface,.int .i64 0,.pointer none,.pointer none] 96)) 36 #[.string ⟨#[]⟩,.slice none 0 0,.string ⟨#[]⟩,.string ⟨#[]⟩];simpa using this
 have hmet:=pa_metric (hs.below hb1) H.toks H.short (Nat.le_of_lt hk);rw[hm]at hmet;have HMET:=Lib.hid hmet;have HPK:Hid (∀W',Below W1.heap.size W1 W'→Calls Tryz.prog 97 #[pV p] W' fun e W2=>e= .returned (peekV (ts.drop k))∧Below W'.heap.size W' W2):=Lib.hid fun W' hb=>pa_peek ((hs.below hb1).below hb) H.toks (Nat.le_of_lt hk)
 have HACC:Hid (∀W',PS w0 p tv en (k+1) o W'→Calls Tryz.prog 99 #[pV p,.string ⟨#[123]⟩] W' fun e W2=>e= .returned (.bool false)∧Below W'.heap.size W' W2):=Lib.hid fun W' hs'=>pa_accept_no [123] hs' H.toks hk h
 have HW1:=Lib.hid hW1;have HB1:=Lib.hid hb1;have HZ1:=Lib.hid hz1;have HZG:=Lib.hid hzg;have HS:=Lib.hid hs;have HP:=Lib.hid H.hp;obtain⟨cur,hcur⟩: ∃cur,cur=ts.drop k:=⟨_,rfl⟩;rw[←hcur]at HPK ⊢
 have hpl:=hs.z.lt;clear hW1 hb1 hz1 hzg hs H hcur hm h hmet;simp only[pV]at HPK HMET HACC ⊢
 go_enter Tryz.func56,Tryz.ntmps56;go_upto_region 2 with(fail)
 rw[←HW1.out];go_wp2_with fail;refine HMET.out.mono ?_;rintro e W2 ⟨rfl,hb2⟩;have HB12:=Lib.hid hb2;clear hb2;go_wp2_with fail;refine(HPK.out _ HB12.out).mono ?_;rintro e W3 ⟨rfl,hb3⟩;have HB13:Hid (Below W1.heap.size W1 W3):=Lib.hid (HB12.out.trans (hb3.mono HB12.out.size));have HZ3:Hid (Blk W3 W.heap.size 96 zThing):=Lib.hid (HZ1.out.below HB13.out HZ1.out.lt);have hg3:=HZG.out.below HB13.out HZG.out.lt;have hs3:=HS.out.below (HB1.out.trans (HB13.out.mono HB1.out.size));have g0:W3.cell? ⟨W.heap.size+1,0,none⟩=some (.string ⟨#[]⟩):=hg3.cell 0;have fg:=hg3.frozen 0;obtain⟨W4,hW4⟩: ∃W4,W4=W3.setCell ⟨W.heap.size+1,0,none⟩ (.string (txB cur)):=⟨_,rfl⟩;have hg4:Blk W4 (W.heap.size+1) 36 #[.string (txB cur),.slice none 0 0,.string ⟨#[]⟩,.string ⟨#[]⟩]:=by rw[hW4];simpa using hg3.set_ 0 (.string (txB cur))
 have hz4:Blk W4 W.heap.size 96 zThing:=by rw[hW4];exact HZ3.out.far (p:=⟨W.heap.size+1,0,none⟩) (by show W.heap.size≠W.heap.size+1;omega) _
 have hs4:PS w0 p tv en k o W4:=by
  rw[hW4];exact hs3.grow (grown_set W3 (W.heap.size+1) 0 _) (by omega) (by have:=HP.out;omega)
 have hb4:Below W.heap.size W W4:=by
  rw[hW4];exact(HB1.out.trans (HB13.out.mono HB1.out.size)).setCell (p:=⟨W.heap.size+1,0,none⟩) (Nat.le_succ _) _
 simp only[peekV];clear hb3 hg3 hs3;go_upto_region 4 with(fail)
 rw[←hW4];have k1:W4.cell? ⟨p,1,none⟩=some (.int .i64 (k:Int)):=hs4.z.cell 1;have f1:=hs4.z.frozen 1;obtain⟨W5,hW5⟩: ∃W5,W5=W4.setCell ⟨p,1,none⟩ (.int .i64 ((k:Int)+1)):=⟨_,rfl⟩;obtain⟨ha,hga⟩:=hs4.set1 (k':=k+1) HP.out;rw[show ((k+1:Nat):Int)=(k:Int)+1 by omega,←hW5]at ha hga;have hg5:Blk W5 (W.heap.size+1) 36 #[.string (txB cur),.slice none 0 0,.string ⟨#[]⟩,.string ⟨#[]⟩]:=by rw[hW5];exact hg4.far (p:=⟨p,1,none⟩) (by show W.heap.size+1≠p;omega) _
 have hz5:Blk W5 W.heap.size 96 zThing:=by rw[hW5];exact hz4.far (p:=⟨p,1,none⟩) (by show W.heap.size≠p;omega) _
 have HS5:=Lib.hid ha;have HG5:Hid (W.grownBy W5 (some p)):=Lib.hid (grow_trans (grown_below hb4 _) hga);have HZG5:=Lib.hid hg5;have HZ5:=Lib.hid hz5;have HW5:=Lib.hid hW5;clear ha hga hg5 hz5 hg4 hz4 hs4 hb4 g0 fg hW4 hW5;go_upto_region 5 with(fail)
 rw[←HW5.out];go_wp2_with fail;refine(HACC.out _ HS5.out).mono ?_;rintro e W6 ⟨rfl,hb6⟩;have HB6:=Lib.hid hb6;clear hb6 k1 f1;go_wp2_with fail;refine(pa_leaf (.inr rfl)).mono ?_;rintro e W7 ⟨rfl,hb7⟩;have HB7:Hid (Below W5.heap.size W5 W7):=Lib.hid (HB6.out.trans (hb7.mono HB6.out.size));have HZ7:Hid (Blk W7 W.heap.size 96 zThing):=Lib.hid (HZ5.out.below HB7.out HZ5.out.lt);simp only[TV.v];clear hb7;go_wp2_with (refine wpList_store_blk rfl 96 (.tmp 4) (.tmp 45) rfl W7.heap.size _ rfl rfl (Blk.new _ _ _) info_thing rfl rfl ?_);intro W8 hz8 hg8;have hb8:Below W7.heap.size W7 W8:=below_grow ((Below.refl W7.heap.size W7).alloc (Nat.le_refl _) _) hg8 (by simp) (Nat.le_refl _);have HB8:Hid (Below W5.heap.size W5 W8):=Lib.hid (HB7.out.trans (hb8.mono HB7.out.size));have q2:=hz8.cell 2;have e2:=hz8.frozen 2;have q3:=hz8.cell 3;have e3:=hz8.frozen 3;simp at q2 q3;have HZ8:=Lib.hid hz8;have HL7:Hid (W.heap.size<W7.heap.size):=Lib.hid HZ7.out.lt;clear hz8 hg8;go_upto_region 11 with(fail)
 go_region;obtain⟨WX,hWX⟩: ∃WX,WX=((W8.setCell ⟨W7.heap.size,2,none⟩ (.pointer (some ⟨W.heap.size+1,0,none⟩))).setCell ⟨W7.heap.size,3,none⟩ (.pointer (some ⟨W.heap.size+1,2,none⟩))).drew:=⟨_,rfl⟩;have hgx:W8.grownBy WX (some W7.heap.size):=by rw[hWX];exact grow_trans (grow_trans (grown_set W8 W7.heap.size 2 _) (grown_set _ W7.heap.size 3 _)) (grown_below (Below.refl _ _).drew _)
 have HZX:Hid (Blk WX W7.heap.size 96 #[.iface 93 (.pointer (some ⟨W.heap.size+1,0,none⟩)),.int .i64 1,.pointer (some ⟨W.heap.size+1,0,none⟩),.pointer (some ⟨W.heap.size+1,2,none⟩)]):=Lib.hid (by rw[hWX];simpa using ((HZ8.out.set_ 2 (.pointer (some ⟨W.heap.size+1,0,none⟩))).set_ 3 (.pointer (some ⟨W.heap.size+1,2,none⟩))).drew);have HZT:Hid (Blk WX W.heap.size 96 zThing):=Lib.hid ((HZ5.out.below HB8.out HZ5.out.lt).grown hgx (by have:=HL7.out;simp;omega));have hgn:Blk WX (W.heap.size+1) 36 #[.string (txB cur),.slice none 0 0,.string ⟨#[]⟩,.string ⟨#[]⟩]:=(HZG5.out.below HB8.out HZG5.out.lt).grown hgx (by have:=HZG5.out.lt;have:=HB7.out.size;simp;omega);have hsx:PS w0 p tv en (k+1) o WX:=(HS5.out.below HB8.out).grow hgx (by have:=HL7.out;omega) (by have:=HP.out;have:=HL7.out;omega);have hgW:W.grownBy WX (some p):=grown_off (grow_trans HG5.out (grown_below HB8.out _)) hgx (by have:=HL7.out;omega);have HFIN:Hid (∀W9,WX.grownBy W9 (some W.heap.size)→PPost w0 p tv en W ⟨[rSel (tx0 cur)],1⟩ (k+1) o (.returned (.agg #[.iface 93 (.pointer (some ⟨W.heap.size+1,0,none⟩)),.int .i64 1,.pointer (some ⟨W.heap.size+1,0,none⟩),.pointer (some ⟨W.heap.size+1,2,none⟩)])) W9):=Lib.hid fun W9 hg9=>by
  have hz9:=hgn.grown hg9 (by simp);exact⟨⟨_,1,_,_⟩,rfl,⟨rfl,rfl,rfl⟩,⟨_,_,rfl⟩,rfl,TT.leaf _ _ ⟨_,_,_,(Nat.le_succ _),hz9,fun _ h=>.selector _ (Nat.le_refl _) h.lt (txB cur) ⟨#[]⟩ ⟨#[]⟩ _ [] (matS_none _ _) (h.cell 0) (h.cell 1) (h.cell 2) (h.cell 3)⟩,hsx.grow hg9 (by omega) (by have:=HP.out;omega),node_grown2 hgW hg9⟩
 rw[←hWX];clear hWX hgx hgn hsx hgW q2 e2 q3 e3;go_wp2_with (first|(refine wpList_load_blk rfl 96 (.tmp 4) rfl W7.heap.size rfl HZX.out Tryz.underlying96 info_thing ?_)|(refine wpList_store_blk rfl 96 (.tmp 2) (.tmp 52) rfl W.heap.size _ rfl rfl HZT.out info_thing rfl rfl ?_;intro W9 hz9 hg9;have HZ9:=Lib.hid hz9;have HF:=Lib.hid (HFIN.out W9 hg9);clear hz9 hg9));exact bodyPost_ret (results_blk Tryz.results56 rfl HZ9.out Tryz.underlying96 info_thing) rfl HF.out
theorem pa_aggr_nil (W:World):Calls Tryz.prog 288 #[.string ⟨#[]⟩] W fun e W'=>e= .returned (.bool false)∧W=W':=by
 go_enter Tryz.func288,Tryz.ntmps288;go_wp2_with fail;go_ret;exact⟨rfl,rfl⟩
theorem TV.all {t:TV} (h:t.one):[t.x,.int .i64 (t.d:Int),t.s,t.w].all (·.oneCell')=true:=by
 simp only[List.all_cons,h.1,h.2.1,h.2.2,List.all_nil,Bool.and_true,Bool.true_and];rfl
theorem pa_name {w0 W:World} {p en k o:Nat} {tv:Value} {ts:List Tok} (H:PH w0 p tv ts) (hs:PS w0 p tv en k o W) (hk:k<ts.length) (h:plainN (ts.drop k)=true):
  Calls Tryz.prog 273 #[pV p] W (PPost w0 p tv en W ⟨[rSel (tx0 (ts.drop k))],1⟩ (k+1) o):=by
 simp only[plainN,Bool.and_eq_true,beq_iff_eq,decide_eq_true_eq,Bool.not_eq_true',List.drop_drop]at h;obtain⟨⟨⟨h1,hw⟩,h40⟩,h123⟩:=h;have hmet:metB (ts.drop k)=true:=by unfold metB;rw[h1,hw];rfl
 have h40c:isO [40] (ts.drop k)=false:=by unfold isO;rw[h1];rfl
 have hwb:wdB (ts.drop k)=⟨#[]⟩:=by unfold wdB;rw[hw]
 have HACC:Hid (∀W',Below W.heap.size W W'→Calls Tryz.prog 99 #[pV p,.string ⟨#[40]⟩] W' fun e W2=>e= .returned (.bool false)∧Below W'.heap.size W' W2):=Lib.hid fun W' hb=>pa_accept_no [40] (hs.below hb) H.toks (Nat.le_of_lt hk) h40c
 have HWD:Hid (∀W',Below W.heap.size W W'→Calls Tryz.prog 98 #[pV p] W' fun e W2=>e= .returned (.string ⟨#[]⟩)∧Below W'.heap.size W' W2):=Lib.hid fun W' hb=>by
  have:=pa_word (hs.below hb) H.toks H.short (Nat.le_of_lt hk);rw[hwb]at this;exact this
 have HMET:Hid (∀W',Below W.heap.size W W'→Calls Tryz.prog 54 #[pV p] W' fun e W2=>e= .returned (.bool true)∧Below W'.heap.size W' W2):=Lib.hid fun W' hb=>by
  have:=pa_metric (hs.below hb) H.toks H.short (Nat.le_of_lt hk);rw[hmet]at this;exact this
 have HCA:Hid (∀W',Below W.heap.size W W'→Calls Tryz.prog 290 #[pV p] W' fun e W2=>e= .returned (.bool false)∧Below W'.heap.size W' W2):=Lib.hid fun W' hb=>pa_called (hs.below hb) H.toks hk h40
 have HSEL:Hid (∀W',Below W.heap.size W W'→Calls Tryz.prog 56 #[pV p] W' (PPost w0 p tv en W' ⟨[rSel (tx0 (ts.drop k))],1⟩ (k+1) o)):=Lib.hid fun W' hb=>pa_sel H (hs.below hb) hk hmet h123
 have H1:=Lib.hid h1;have hkl:=H.toks.len;obtain⟨W1,hW1⟩: ∃W1,W1=W.alloc (.cells #[.nilIface,.int .i64 0,.pointer none,.pointer none] 96):=⟨_,rfl⟩;have hb1:Below W.heap.size W W1:=by rw[hW1];exact(Below.refl _ W).alloc (Nat.le_refl _) _
 have hz1:Blk W1 W.heap.size 96 zThing:=by rw[hW1];exact Blk.new _ _ _
 have HPK:=Lib.hid (pa_peek (hs.below hb1) H.toks (Nat.le_of_lt hk));have HW1:=Lib.hid hW1;have HB1:=Lib.hid hb1;have HZ1:=Lib.hid hz1;have HS:=Lib.hid hs;have HP:=Lib.hid H.hp;obtain⟨cur,hcur⟩: ∃cur,cur=ts.drop k:=⟨_,rfl⟩;rw[←hcur]at HPK HSEL H1 ⊢
 have hpl:=hs.z.lt;clear hW1 hb1 hz1 hs H hcur h1 hw h40 h123 hmet h40c hwb;simp only[pV]at HPK HACC HWD HMET HCA HSEL ⊢
 go_enter Tryz.func273,Tryz.ntmps273;go_upto_region 1 with(fail)
 rw[←HW1.out];go_wp2_with fail;refine HPK.out.mono ?_;rintro e W2 ⟨rfl,hb2⟩;have HB2:Hid (Below W.heap.size W W2):=Lib.hid (HB1.out.trans (hb2.mono HB1.out.size));have HZ2:Hid (Blk W2 W.heap.size 96 zThing):=Lib.hid (HZ1.out.below hb2 HZ1.out.lt);simp only[peekV];clear hb2;go_wp2_with (refine wpList_store_blk rfl 81 (.tmp 3) (.tmp 6) rfl W2.heap.size _ rfl rfl (Blk.new _ _ _) info_tok3 rfl rfl ?_);intro W3 hz3 hg3;have hb3:Below W2.heap.size W2 W3:=below_grow ((Below.refl W2.heap.size W2).alloc (Nat.le_refl _) _) hg3 (by simp) (Nat.le_refl _);have HB3:Hid (Below W.heap.size W W3):=Lib.hid (HB2.out.trans (hb3.mono HB2.out.size));have HZT3:Hid (Blk W3 W.heap.size 96 zThing):=Lib.hid (HZ2.out.below hb3 HZ2.out.lt);have HZK3:Hid (Blk W3 W2.heap.size 81 #[.int .i64 (tk0 cur:Int),.string (txB cur),.int .i64 (ps0 cur:Int)]):=Lib.hid hz3;have HL2:Hid (W.heap.size<W2.heap.size):=Lib.hid HZ2.out.lt;have c0:W3.cell? ⟨W2.heap.size,0,none⟩=some (.int .i64 (tk0 cur:Int)):=hz3.cell 0;clear hz3 hg3 hb3;have h1:=H1.out;have q3:((tk0 cur:Int)==3)=false:=by rw[h1];rfl
 have q4:((tk0 cur:Int)==4)=false:=by rw[h1];rfl
 have q5:((tk0 cur:Int)==5)=false:=by rw[h1];rfl
 have q1:((tk0 cur:Int)==1)=true:=by rw[h1];rfl
 clear h1;go_wp2_with fail;refine(HACC.out _ HB3.out).mono ?_;rintro e W4 ⟨rfl,hb4⟩;have HB4:Hid (Below W.heap.size W W4):=Lib.hid (HB3.out.trans (hb4.mono HB3.out.size));have HB34:=Lib.hid hb4;clear hb4;go_wp2_with fail;refine(HWD.out _ HB4.out).mono ?_;rintro e W5 ⟨rfl,hb5⟩;have HB5:Hid (Below W.heap.size W W5):=Lib.hid (HB4.out.trans (hb5.mono HB4.out.size));have HB35:Hid (Below W3.heap.size W3 W5):=Lib.hid (HB34.out.trans (hb5.mono HB34.out.size));clear hb5;go_wp2_with fail;refine(pa_aggr_nil _).mono ?_;rintro e W5' ⟨rfl,rfl⟩;go_wp2_with fail;refine(HMET.out _ HB5.out).mono ?_;rintro e W6 ⟨rfl,hb6⟩;have HB6:Hid (Below W.heap.size W W6):=Lib.hid (HB5.out.trans (hb6.mono HB5.out.size));have HB36:Hid (Below W3.heap.size W3 W6):=Lib.hid (HB35.out.trans (hb6.mono HB35.out.size));have c6:W6.cell? ⟨W2.heap.size,0,none⟩=some (.int .i64 (tk0 cur:Int)):=(HZK3.out.below HB36.out HZK3.out.lt).cell 0;clear hb6;go_wp2_with fail;refine(HCA.out _ HB6.out).mono ?_;rintro e W7 ⟨rfl,hb7⟩;have HB7:Hid (Below W.heap.size W W7):=Lib.hid (HB6.out.trans (hb7.mono HB6.out.size));have HB37:Hid (Below W3.heap.size W3 W7):=Lib.hid (HB36.out.trans (hb7.mono HB36.out.size));clear hb7 c6;go_wp2_with fail;refine(HMET.out _ HB7.out).mono ?_;rintro e W8 ⟨rfl,hb8⟩;have HB8:Hid (Below W.heap.size W W8):=Lib.hid (HB7.out.trans (hb8.mono HB7.out.size));have HB38:Hid (Below W3.heap.size W3 W8):=Lib.hid (HB37.out.trans (hb8.mono HB37.out.size));clear hb8;go_wp2_with fail;refine(HSEL.out _ HB8.out).mono ?_;intro e W9 hp;obtain⟨t,rfl,ht1,hti,htd,hta,hwn8⟩:=hp;have hwn:=hwn8.of_below HB8.out;have HL8:Hid (W.heap.size<W8.heap.size):=Lib.hid (Nat.lt_of_lt_of_le HZT3.out.lt HB38.out.size);have HT:=Lib.hid (And.intro ht1 (And.intro hti (And.intro htd (And.intro hta hwn))));have HZT9:Hid (Blk W9 W.heap.size 96 zThing):=Lib.hid ((HZT3.out.below HB38.out HZT3.out.lt).grown hwn8.2 (by simp;omega));have o4:=TV.all ht1;simp only[TV.v];clear ht1 hti htd hta hwn hwn8;go_wp2_with (refine wpList_store_blk rfl 96 (.tmp 2) (.tmp 79) rfl W.heap.size _ rfl rfl HZT9.out info_thing rfl o4 ?_);intro W10 hz10 hg10;have HZ10:=Lib.hid hz10;have HF:Hid (PPost w0 p tv en W ⟨[rSel (tx0 cur)],1⟩ (k+1) o (.returned t.v) W10):=Lib.hid (by
  obtain⟨h1,h2,h3,h4,h5⟩:=HT.out;exact⟨t,rfl,h1,h2,h3,(h4.agree (agree_grown hg10 HL8.out)).lo (Nat.le_of_lt HL8.out),h5.1.grow hg10 (by omega) (by have:=HP.out;omega),node_grown2 h5.2 hg10⟩)
 clear hz10 hg10 o4;go_wp2_with fail;exact bodyPost_ret (results_blk Tryz.results273 rfl HZ10.out Tryz.underlying96 info_thing) rfl HF.out
theorem pa_br {w0 W:World} {p en k o k1 o1:Nat} {tv:Value} {ts:List Tok} {x:Th} (H:PH w0 p tv ts) (hs:PS w0 p tv en k o W) (hk:k<ts.length) (h:isO [40] (ts.drop k)=true) (ho:o<300)
  (hq: ∀W',PS w0 p tv en (k+1) (o+1) W'→Calls Tryz.prog 79 #[pV p] W' (PPost w0 p tv en W' x k1 o1)) (hk1:k1≤ts.length) (h41:isO [41] (ts.drop k1)=true) (ho1:1≤o1) (ho2:o1≤300):
  Calls Tryz.prog 273 #[pV p] W (PPost w0 p tv en W x (k1+1) (o1-1)):=by
 have h6:tk0 (ts.drop k)=6:=by
  simp only[isO,Bool.and_eq_true,beq_iff_eq]at h;exact h.1
 have HOP:Hid (∀W',PS w0 p tv en k o W'→Calls Tryz.prog 99 #[pV p,.string ⟨#[40]⟩] W' fun e W2=>e= .returned (.bool true)∧Went w0 p tv en (k+1) (o+1) W' W2):=Lib.hid fun W' hs'=>pa_open hs' H.hp H.toks (Nat.le_of_lt hk) h ho
 have HCL:Hid (∀W',PS w0 p tv en k1 o1 W'→Calls Tryz.prog 101 #[pV p,.string ⟨#[41]⟩] W' fun e W2=>(∃r,e= .returned r)∧Went w0 p tv en (k1+1) (o1-1) W' W2):=Lib.hid fun W' hs'=>pa_close hs' H.hp H.toks hk1 h41 ho1 (by omega)
 have HQ:=Lib.hid hq;have H6:=Lib.hid h6;have hkl:=H.toks.len;obtain⟨W1,hW1⟩: ∃W1,W1=W.alloc (.cells #[.nilIface,.int .i64 0,.pointer none,.pointer none] 96):=⟨_,rfl⟩;have hb1:Below W.heap.size W W1:=by rw[hW1];exact(Below.refl _ W).alloc (Nat.le_refl _) _
 have hz1:Blk W1 W.heap.size 96 zThing:=by rw[hW1];exact Blk.new _ _ _
 have HPK:=Lib.hid (pa_peek (hs.below hb1) H.toks (Nat.le_of_lt hk));have HW1:=Lib.hid hW1;have HB1:=Lib.hid hb1;have HZ1:=Lib.hid hz1;have HS:=Lib.hid hs;have HP:=Lib.hid H.hp;obtain⟨cur,hcur⟩: ∃cur,cur=ts.drop k:=⟨_,rfl⟩;rw[←hcur]at HPK H6;have hpl:=hs.z.lt;clear hW1 hb1 hz1 hs H hcur h h6 hq h41;simp only[pV]at HPK HOP HCL HQ ⊢
 go_enter Tryz.func273,Tryz.ntmps273;go_upto_region 1 with(fail)
 rw[←HW1.out];go_wp2_with fail;refine HPK.out.mono ?_;rintro e W2 ⟨rfl,hb2⟩;have HB2:Hid (Below W.heap.size W W2):=Lib.hid (HB1.out.trans (hb2.mono HB1.out.size));have HZ2:Hid (Blk W2 W.heap.size 96 zThing):=Lib.hid (HZ1.out.below hb2 HZ1.out.lt);simp only[peekV];clear hb2;go_wp2_with (refine wpList_store_blk rfl 81 (.tmp 3) (.tmp 6) rfl W2.heap.size _ rfl rfl (Blk.new _ _ _) info_tok3 rfl rfl ?_);intro W3 hz3 hg3;have hb3:Below W2.heap.size W2 W3:=below_grow ((Below.refl W2.heap.size W2).alloc (Nat.le_refl _) _) hg3 (by simp) (Nat.le_refl _);have HB3:Hid (Below W.heap.size W W3):=Lib.hid (HB2.out.trans (hb3.mono HB2.out.size));have HZT3:Hid (Blk W3 W.heap.size 96 zThing):=Lib.hid (HZ2.out.below hb3 HZ2.out.lt);have HZK3:Hid (Blk W3 W2.heap.size 81 #[.int .i64 (tk0 cur:Int),.string (txB cur),.int .i64 (ps0 cur:Int)]):=Lib.hid hz3;have HL2:Hid (W.heap.size<W2.heap.size):=Lib.hid HZ2.out.lt;have c0:W3.cell? ⟨W2.heap.size,0,none⟩=some (.int .i64 (tk0 cur:Int)):=hz3.cell 0;clear hz3 hg3 hb3;have q3:((tk0 cur:Int)==3)=false:=by rw[H6.out];rfl
 have q4:((tk0 cur:Int)==4)=false:=by rw[H6.out];rfl
 have q5:((tk0 cur:Int)==5)=false:=by rw[H6.out];rfl
 go_wp2_with fail;refine(HOP.out _ (HS.out.below HB3.out)).mono ?_;rintro e W4 ⟨rfl,hw4⟩;have HW4:=Lib.hid (hw4.of_below HB3.out);have HW34:=Lib.hid hw4;clear hw4;go_wp2_with fail;refine(HQ.out _ HW4.out.1).mono ?_;rintro e W5 ⟨t,rfl,ht1,⟨tt,gg,hti⟩,htd,hta,hwn⟩;have HT:=Lib.hid (And.intro ht1 (And.intro htd (And.intro hta hwn)));have HX:=Lib.hid hti;have hpx:p≠W.heap.size:=by omega
 have HL4:Hid (W.heap.size<W4.heap.size):=Lib.hid (Nat.lt_of_lt_of_le (Nat.lt_of_lt_of_le HZT3.out.lt HW34.out.2.size) (Nat.le_refl _));have HZT5:Hid (Blk W5 W.heap.size 96 zThing):=Lib.hid ((HZT3.out.grown HW34.out.2 (by simpa using hpx.symm)).grown hwn.2 (by simpa using hpx.symm));have o4:=TV.all ht1;simp only[TV.v];clear ht1 hti htd hta hwn;go_wp2_with (refine wpList_store_blk rfl 96 (.tmp 4) (.tmp 43) rfl W5.heap.size _ rfl rfl (Blk.new _ _ _) info_thing rfl o4 ?_);intro W6 hz6 hg6;have hb6:Below W5.heap.size W5 W6:=below_grow ((Below.refl W5.heap.size W5).alloc (Nat.le_refl _) _) hg6 (by simp) (Nat.le_refl _);have HB6:=Lib.hid hb6;have HZ6:=Lib.hid hz6;have HL5:Hid (p<W5.heap.size∧W.heap.size<W5.heap.size):=Lib.hid ⟨HT.out.2.2.2.1.z.lt,HZT5.out.lt⟩;clear hz6 hg6 hb6 o4;go_wp2_with fail;refine(HCL.out _ (HT.out.2.2.2.1.below HB6.out)).mono ?_;rintro e W7 ⟨⟨r,rfl⟩,hw7⟩;have hz7:=HZ6.out.grown hw7.2 (by have:=HL5.out.1;simp;omega);have c0:W7.cell? ⟨W5.heap.size,0,none⟩=some (.iface tt (.pointer (some ⟨gg,0,none⟩))):=(hz7.cell 0).trans (by rw[HX.out];rfl);have c1:W7.cell? ⟨W5.heap.size,1,none⟩=some (.int .i64 (t.d:Int)):=hz7.cell 1;have HZT7:Hid (Blk W7 W.heap.size 96 zThing):=Lib.hid ((HZT5.out.below HB6.out HZT5.out.lt).grown hw7.2 (by simpa using hpx.symm));have HFIN:Hid (∀W8,W7.grownBy W8 (some W.heap.size)→PPost w0 p tv en W x (k1+1) (o1-1) (.returned (.agg #[.iface tt (.pointer (some ⟨gg,0,none⟩)),.int .i64 (t.d:Int),.pointer none,.pointer none])) W8):=Lib.hid fun W8 hg8=>by
  obtain⟨_,h3,h4,h5⟩:=HT.out;have hta:TA W4.heap.size W7 t.x x.rows:=(h4.agree ((Agree.refl _ _).below HB6.out)).agree (agree_grown hw7.2 (Nat.lt_of_lt_of_le hpl (Nat.le_trans HB3.out.size HW34.out.2.size)));rw[HX.out]at hta;refine⟨⟨.iface tt (.pointer (some ⟨gg,0,none⟩)),t.d,.pointer none,.pointer none⟩,rfl,⟨rfl,rfl,rfl⟩,⟨_,_,rfl⟩,h3,(hta.agree (agree_grown hg8 HL4.out)).lo (Nat.le_of_lt HL4.out),hw7.1.grow hg8 hpx (by have:=HP.out;omega),?_⟩;exact node_grown2 (grow_trans (grow_trans (grow_trans HW4.out.2 h5.2) (grown_below HB6.out _)) hw7.2) hg8
 clear hw7 hz7;go_wp2_with (refine wpList_store_blk rfl 96 (.tmp 2) (.tmp 50) rfl W.heap.size _ rfl rfl HZT7.out info_thing rfl rfl ?_);intro W8 hz8 hg8;have HZ8:=Lib.hid hz8;have HF:=Lib.hid (HFIN.out W8 hg8);clear hz8 hg8;go_wp2_with fail;exact bodyPost_ret (results_blk Tryz.results273 rfl HZ8.out Tryz.underlying96 info_thing) rfl HF.out
theorem pa_postfix {w0 W:World} {p en k o k1 o1:Nat} {tv:Value} {ts:List Tok} {x:Th} (H:PH w0 p tv ts) (hs:PS w0 p tv en k o W)
  (hq: ∀W',PS w0 p tv en k o W'→Calls Tryz.prog 273 #[pV p] W' (PPost w0 p tv en W' x k1 o1)) (hk1:k1≤ts.length) (he:ends (ts.drop k1)=true):
  Calls Tryz.prog 254 #[pV p] W (PPost w0 p tv en W x k1 o1):=by
 simp only[ends,Bool.and_eq_true,Bool.not_eq_true',decide_eq_true_eq]at he;obtain⟨⟨h91,hoff⟩,h64⟩:=he;have HACC:Hid (∀W',PS w0 p tv en k1 o1 W'→Calls Tryz.prog 99 #[pV p,.string ⟨#[91]⟩] W' fun e W2=>e= .returned (.bool false)∧Below W'.heap.size W' W2):=Lib.hid fun W' hs'=>pa_accept_no [91] hs' H.toks hk1 h91
 have HWD:Hid (∀W',PS w0 p tv en k1 o1 W'→Calls Tryz.prog 98 #[pV p] W' fun e W2=>e= .returned (.string (wdB (ts.drop k1)))∧Below W'.heap.size W' W2):=Lib.hid fun W' hs'=>pa_word hs' H.toks H.short hk1
 have HIS:Hid (∀W',PS w0 p tv en k1 o1 W'→Calls Tryz.prog 53 #[pV p,.string ⟨#[64]⟩] W' fun e W2=>e= .returned (.bool false)∧Below W'.heap.size W' W2):=Lib.hid fun W' hs'=>by
  have:=pa_is [64] hs' H.toks hk1;rw[h64]at this;exact this
 have HNE:Hid (((wdB (ts.drop k1)).toList==[111,102,102,115,101,116])=false):=Lib.hid (wdB_ne hoff);have HP:=Lib.hid H.hp;obtain⟨W1,hW1⟩: ∃W1,W1=W.alloc (.cells #[.nilIface,.int .i64 0,.pointer none,.pointer none] 96):=⟨_,rfl⟩;have hb1:Below W.heap.size W W1:=by rw[hW1];exact(Below.refl _ W).alloc (Nat.le_refl _) _
 have hz1:Blk W1 W.heap.size 96 zThing:=by rw[hW1];exact Blk.new _ _ _
 have HQ:=Lib.hid (hq W1 (hs.below hb1));have HW1:=Lib.hid hW1;have HB1:=Lib.hid hb1;have HZ1:=Lib.hid hz1;have hpl:=hs.z.lt;generalize wdB (ts.drop k1)=wb at HWD HNE;clear hW1 hb1 hz1 hs hq H h91 hoff h64 hk1;simp only[pV]at HQ HACC HWD HIS ⊢
 go_enter Tryz.func254,Tryz.ntmps254;go_upto_region 1 with(fail)
 rw[←HW1.out];go_wp2_with fail;refine HQ.out.mono ?_;rintro e W2 ⟨t,rfl,ht1,hti,htd,hta,hwn⟩;have HT:=Lib.hid (And.intro ht1 (And.intro hti (And.intro htd (And.intro hta hwn))));have hpx:p≠W.heap.size:=by omega
 have HL1:Hid (W.heap.size<W1.heap.size):=Lib.hid HZ1.out.lt;have HZT2:Hid (Blk W2 W.heap.size 96 zThing):=Lib.hid (HZ1.out.grown hwn.2 (by simpa using hpx.symm));have o4:=TV.all ht1;have HO4:=Lib.hid o4;simp only[TV.v];clear ht1 hti htd hta hwn;go_wp2_with (refine wpList_store_blk rfl 96 (.tmp 3) (.tmp 6) rfl W2.heap.size _ rfl rfl (Blk.new _ _ _) info_thing rfl o4 ?_);intro W3 hz3 hg3;have HB3:Hid (Below W2.heap.size W2 W3):=Lib.hid (below_grow ((Below.refl W2.heap.size W2).alloc (Nat.le_refl _) _) hg3 (by simp) (Nat.le_refl _));have HZ3:=Lib.hid hz3;have HS2:=Lib.hid HT.out.2.2.2.2.1;clear hz3 hg3 o4;go_wp2_with fail;go_loopw [8] (fun t8 W'=>Hid (Below W2.heap.size W2 W'∧Blk W' W2.heap.size 96 #[t.x,.int .i64 (t.d:Int),t.s,t.w])) (fun _ _=>0)
 case atStart=>exact Lib.hid ⟨HB3.out,HZ3.out⟩
 case round=>
  have hI:=hrel;go_wp2_with fail;refine(HACC.out _ (HS2.out.below hI.out.1)).mono ?_;rintro e W4 ⟨rfl,hb4⟩;have HB4:Hid (Below W2.heap.size W2 W4∧Blk W4 W2.heap.size 96 #[t.x,.int .i64 (t.d:Int),t.s,t.w]):=Lib.hid ⟨hI.out.1.trans (hb4.mono hI.out.1.size),hI.out.2.below hb4 hI.out.2.lt⟩;clear hb4;go_wp2_with fail;refine(HWD.out _ (HS2.out.below HB4.out.1)).mono ?_;rintro e W5 ⟨rfl,hb5⟩;have HB5:Hid (Below W2.heap.size W2 W5∧Blk W5 W2.heap.size 96 #[t.x,.int .i64 (t.d:Int),t.s,t.w]):=Lib.hid ⟨HB4.out.1.trans (hb5.mono HB4.out.1.size),HB4.out.2.below hb5 HB4.out.2.lt⟩;have hne:=HNE.out;clear hb5;go_wp2_with fail;refine(HIS.out _ (HS2.out.below HB5.out.1)).mono ?_;rintro e W6 ⟨rfl,hb6⟩;have HB6:Hid (Below W2.heap.size W2 W6∧Blk W6 W2.heap.size 96 #[t.x,.int .i64 (t.d:Int),t.s,t.w]):=Lib.hid ⟨HB5.out.1.trans (hb6.mono HB5.out.1.size),HB5.out.2.below hb6 HB5.out.2.lt⟩;have HZT6:Hid (Blk W6 W.heap.size 96 zThing):=Lib.hid (HZT2.out.below HB6.out.1 HZT2.out.lt);have HZX:=Lib.hid HB6.out.2;have o4:=HO4.out;clear hb6 hne;go_wp2_with (first|(refine wpList_load_blk rfl 96 (.tmp 3) rfl W2.heap.size rfl HZX.out Tryz.underlying96 info_thing ?_)|(refine wpList_store_blk rfl 96 (.tmp 2) (.tmp 7) rfl W.heap.size _ rfl rfl HZT6.out info_thing rfl o4 ?_;intro W7 hz7 hg7;have HZ7:=Lib.hid hz7;have HG7:=Lib.hid hg7;clear hz7 hg7));have HF:Hid (PPost w0 p tv en W x k1 o1 (.returned t.v) W7):=Lib.hid (by
   obtain⟨h1,h2,h3,h4,h5⟩:=HT.out;refine⟨t,rfl,h1,h2,h3,?_,(h5.1.below HB6.out.1).grow HG7.out (by omega) (by have:=HP.out;omega),?_⟩
   ·exact((h4.agree ((Agree.refl _ _).below HB6.out.1)).agree (agree_grown HG7.out HL1.out)).lo (Nat.le_of_lt HL1.out)
   ·exact node_grown2 (grow_trans (grow_trans (grown_below HB1.out _) h5.2) (grown_below HB6.out.1 _)) HG7.out)
  exact bodyPost_ret (results_blk Tryz.results254 rfl HZ7.out Tryz.underlying96 info_thing) rfl HF.out
def binC (s:ByteArray) (x y:Value):Array Value:=#[.string s,x,y,.bool false,.bool false,.bool false,.slice none 0 0,.int .i64 0,.slice none 0 0]
theorem set4t {W:World} {g:Nat} {t:TypeId} {z0 z1 z2 z3:Value} (h:Blk W g t #[z0,z1,z2,z3]) (v0 v1 v2 v3:Value):
  Blk ((((W.setCell ⟨g,0,none⟩ v0).setCell ⟨g,1,none⟩ v1).setCell ⟨g,2,none⟩ v2).setCell ⟨g,3,none⟩ v3) g t #[v0,v1,v2,v3]∧W.grownBy ((((W.setCell ⟨g,0,none⟩ v0).setCell ⟨g,1,none⟩ v1).setCell ⟨g,2,none⟩ v2).setCell ⟨g,3,none⟩ v3) (some g):=by
 refine⟨?_,grow_trans (grow_trans (grow_trans (grown_set W g 0 v0) (grown_set _ g 1 v1)) (grown_set _ g 2 v2)) (grown_set _ g 3 v3)⟩;have:=(((h.set_ 0 v0).set_ 1 v1).set_ 2 v2).set_ 3 v3;simpa using this
theorem kids_two (W:World) (t u:TV):KidsS (W.alloc (.cells #[t.x,.int .i64 (t.d:Int),t.s,t.w,u.x,.int .i64 (u.d:Int),u.s,u.w] 96)) (.slice (some ⟨W.heap.size,0,none⟩) 2 2) [t,u]:=by
 have hz:=Blk.new W 96 #[t.x,.int .i64 (t.d:Int),t.s,t.w,u.x,.int .i64 (u.d:Int),u.s,u.w];refine⟨_,2,rfl,fun j hj=>⟨W.heap.size,0,rfl,hz.lt,?_⟩⟩;have hj2:j=0∨j=1:=by simp at hj;omega
 rcases hj2 with rfl|rfl
 ·exact⟨hz.cell 0,hz.cell 1,hz.cell 2,hz.cell 3⟩
 ·exact⟨hz.cell 4,hz.cell 5,hz.cell 6,hz.cell 7⟩
structure Got (w0:World) (p:Nat) (tv:Value) (en:Nat) (W:World) (x:Th) (k o:Nat) (t:TV) (W':World):Prop where
 one:t.one
 ifc: ∃tt g,t.x= .iface tt (.pointer (some ⟨g,0,none⟩))
 deep:t.d=x.deep
 tree:TA W.heap.size W' t.x x.rows
 went:Went w0 p tv en k o W W'
theorem PPost.got {w0 W W':World} {p en k o:Nat} {tv:Value} {x:Th} {e:Ending} (h:PPost w0 p tv en W x k o e W'): ∃t:TV,e= .returned t.v∧Got w0 p tv en W x k o t W':=by
 obtain⟨t,h0,h1,h2,h3,h4,h5⟩:=h;exact⟨t,h0,h1,h2,h3,h4,h5⟩
theorem bin_node {w0 W W1 W2 W3:World} {p en k1 o1 k2 o2 gB:Nat} {tv:Value} {s:List UInt8} {x y z:Th} {t u:TV} (hx:Got w0 p tv en W x k1 o1 t W1) (hb:Blk W2 gB 181 (binC ⟨s.toArray⟩ .nilIface .nilIface)) (hgB:W1.heap.size≤gB) (h12:W1.grownBy W2 (some p)) (hp:p<W.heap.size)
  (hy:Got w0 p tv en W2 y k2 o2 u W3) (hz:mkB s x y=some z) (hw0:w0.heap.size≤p):
  Calls Tryz.prog 102 #[.iface 179 (.pointer (some ⟨gB,0,none⟩)),.slice (some ⟨W3.heap.size,0,none⟩) 2 2] (W3.alloc (.cells #[t.x,.int .i64 (t.d:Int),t.s,t.w,u.x,.int .i64 (u.d:Int),u.s,u.w] 96)) fun e W4=>e= .returned (.agg #[.iface 179 (.pointer (some ⟨gB,0,none⟩)),.int .i64 ((z.deep:Nat):Int),.pointer none,.pointer none])∧W3.grownBy W4 (some gB)∧
   Got w0 p tv en W z k2 o2 ⟨.iface 179 (.pointer (some ⟨gB,0,none⟩)),z.deep,.pointer none,.pointer none⟩ W4:=by
 have hd:max x.deep y.deep+1≤128∧z=⟨rBin s::(x.rows++y.rows),max x.deep y.deep+1⟩:=by
  unfold mkB at hz;split at hz
  ·rename_i h;injection hz with hz;exact⟨h,hz.symm⟩
  ·cases hz
 obtain⟨hd,rfl⟩:=hd;have hWa:Below W3.heap.size W3 (W3.alloc (.cells #[t.x,.int .i64 (t.d:Int),t.s,t.w,u.x,.int .i64 (u.d:Int),u.s,u.w] 96)):=(Below.refl _ _).alloc (Nat.le_refl _) _;have hpB:p≠gB:=by have:=hx.went.1.z.lt;have:=hx.went.2.size;omega
 have hb3:Blk W3 gB 181 (binC ⟨s.toArray⟩ .nilIface .nilIface):=hb.grown hy.went.2 (by simp;exact fun e=>hpB e.symm);have hb4:=hb3.below hWa hb3.lt;have hix:=hx.ifc;have hiy:=hy.ifc;refine(pa_bin (t0:=t) (t1:=u) hb4 (kids_two W3 t u) hx.one hy.one (by rw[hx.deep,hy.deep];exact hd) (by obtain⟨a,b,e⟩:=hix;exact⟨a,_,e⟩) (by obtain⟨a,b,e⟩:=hiy;exact⟨a,_,e⟩)).mono ?_;rintro e W4 ⟨rfl,hbn,hg4⟩;have hg34:W3.grownBy W4 (some gB):=grow_trans (grown_below hWa _) hg4;have hsW1:W.heap.size≤W1.heap.size:=hx.went.2.size;have hs23:W2.heap.size≤W3.heap.size:=hy.went.2.size;have hs12:W1.heap.size≤W2.heap.size:=h12.size;have hs34:W3.heap.size≤W4.heap.size:=hg34.size;have hgB2:gB<W2.heap.size:=hb.lt;have hx4:TA W.heap.size W4 t.x x.rows:=hx.tree.agree ⟨by omega,fun k h1 h2=>(hg34.block k (by omega) (by intro e;injection e;omega)).trans ((hy.went.2.block k (by omega) (by intro e;injection e;omega)).trans (h12.block k h2 (by intro e;injection e;omega)))⟩;have hy4:TA W.heap.size W4 u.x y.rows:=(hy.tree.agree (agree_grown hg34 hgB2)).lo (by omega);obtain⟨t1,g1,e1⟩:=hix;obtain⟨t2,g2,e2⟩:=hiy;refine⟨by rw[hx.deep,hy.deep];rfl,hg34,⟨rfl,rfl,rfl⟩,⟨_,_,rfl⟩,rfl,?_,?_⟩
 ·refine TT.bin _ _ _ _ _ _ ?_ hx4 hy4;rw[e1,e2]at hbn ⊢
  exact⟨_,_,_,(by show W.heap.size≤gB;omega),hbn,fun _ h=>.binary gB (Nat.le_refl _) h.lt ⟨s.toArray⟩ t1 t2 _ _ false false false (.slice none 0 0) (.slice none 0 0) [] [] 0 (strS_none _ _) (strS_none _ _) (h.cell 0) (h.cell 1) (h.cell 2) (h.cell 3) (h.cell 4) (h.cell 5) (h.cell 6) (h.cell 7) (h.cell 8)⟩
 ·have hs4:=hy.went.1.grow hg34 hpB (by omega);exact⟨hs4,grown_off (grow_trans hx.went.2 (grow_trans h12 hy.went.2)) hg34 (by omega)⟩
theorem PPost.conc {w0 W W':World} {p en k o:Nat} {tv:Value} {x:Th} {e:Ending} (h:PPost w0 p tv en W x k o e W'): ∃tt g sv wv,e= .returned (.agg #[.iface tt (.pointer (some ⟨g,0,none⟩)),.int .i64 (x.deep:Int),sv,wv])∧(#[.iface tt (.pointer (some ⟨g,0,none⟩)),.int .i64 (x.deep:Int),sv,wv]:Array Value).toList.all (·.oneCell')=true∧sv.oneCell'=true∧wv.oneCell'=true∧Got w0 p tv en W x k o ⟨.iface tt (.pointer (some ⟨g,0,none⟩)),x.deep,sv,wv⟩ W':=by
 obtain⟨t,rfl,hg⟩:=h.got;obtain⟨tt,g,hx⟩:=hg.ifc;obtain⟨tx,td,ts,tw⟩:=t;have h1:=hg.one;have hd:=hg.deep;simp only at hx hd;subst hx hd;exact⟨tt,g,ts,tw,rfl,TV.all h1,h1.2.1,h1.2.2,hg⟩
theorem pa_pow0 {w0 W:World} {p en k o k1 o1:Nat} {tv:Value} {ts:List Tok} {x:Th} (H:PH w0 p tv ts) (hs:PS w0 p tv en k o W)
  (hq: ∀W',PS w0 p tv en k o W'→Calls Tryz.prog 254 #[pV p] W' (PPost w0 p tv en W' x k1 o1)) (hk1:k1≤ts.length) (he:isO [94] (ts.drop k1)=false):
  Calls Tryz.prog 220 #[pV p] W (PPost w0 p tv en W x k1 o1):=by
 have HIS:Hid (∀W',PS w0 p tv en k1 o1 W'→Calls Tryz.prog 53 #[pV p,.string ⟨#[94]⟩] W' fun e W2=>e= .returned (.bool false)∧Below W'.heap.size W' W2):=Lib.hid fun W' hs'=>by
  have:=pa_is [94] hs' H.toks hk1;rw[he]at this;exact this
 have HP:=Lib.hid H.hp;obtain⟨W1,hW1⟩: ∃W1,W1=W.alloc (.cells #[.nilIface,.int .i64 0,.pointer none,.pointer none] 96):=⟨_,rfl⟩;have hb1:Below W.heap.size W W1:=by rw[hW1];exact(Below.refl _ W).alloc (Nat.le_refl _) _
 have hz1:Blk W1 W.heap.size 96 zThing:=by rw[hW1];exact Blk.new _ _ _
 have HQ:=Lib.hid (hq W1 (hs.below hb1));have HW1:=Lib.hid hW1;have HB1:=Lib.hid hb1;have HZ1:=Lib.hid hz1;have hpl:=hs.z.lt;clear hW1 hb1 hz1 hs hq H hk1 he;simp only[pV]at HQ HIS ⊢
 go_enter Tryz.func220,Tryz.ntmps220;go_upto_region 1 with(fail)
 rw[←HW1.out];go_wp2_with fail;refine HQ.out.mono ?_;intro e W2 hpp;obtain⟨tt,gg,sv,wv,rfl,hall,hsv,hwv,hgot⟩:=hpp.conc;have HALL:=Lib.hid hall;have HG:=Lib.hid hgot;have hpx:p≠W.heap.size:=by omega
 have HL1:Hid (W.heap.size<W1.heap.size):=Lib.hid HZ1.out.lt;have HZT2:Hid (Blk W2 W.heap.size 96 zThing):=Lib.hid (HZ1.out.grown hgot.went.2 (by simpa using hpx.symm));clear hgot hpp hall;go_wp2_with (refine wpList_store_blk rfl 96 (.tmp 3) (.tmp 6) rfl W2.heap.size _ rfl rfl (Blk.new _ _ _) info_thing rfl HALL.out ?_);intro W3 hz3 hg3;have HB3:Hid (Below W2.heap.size W2 W3):=Lib.hid (below_grow ((Below.refl W2.heap.size W2).alloc (Nat.le_refl _) _) hg3 (by simp) (Nat.le_refl _));have HZ3:=Lib.hid hz3;clear hz3 hg3;go_wp2_with fail;refine(HIS.out _ (HG.out.went.1.below HB3.out)).mono ?_;rintro e W6 ⟨rfl,hb6⟩;have HB6:Hid (Below W2.heap.size W2 W6∧Blk W6 W2.heap.size 96 #[.iface tt (.pointer (some ⟨gg,0,none⟩)),.int .i64 (x.deep:Int),sv,wv]):=Lib.hid ⟨HB3.out.trans (hb6.mono HB3.out.size),HZ3.out.below hb6 HZ3.out.lt⟩;have HZT6:Hid (Blk W6 W.heap.size 96 zThing):=Lib.hid (HZT2.out.below HB6.out.1 HZT2.out.lt);have HZX:=Lib.hid HB6.out.2;clear hb6;go_wp2_with (first|(refine wpList_load_blk rfl 96 (.tmp 3) rfl W2.heap.size rfl HZX.out Tryz.underlying96 info_thing ?_)|(refine wpList_store_blk rfl 96 (.tmp 2) (.tmp 10) rfl W.heap.size _ rfl rfl HZT6.out info_thing rfl HALL.out ?_;intro W7 hz7 hg7;have HZ7:=Lib.hid hz7;have HG7:=Lib.hid hg7;clear hz7 hg7));have HF:Hid (PPost w0 p tv en W x k1 o1 (.returned (.agg #[.iface tt (.pointer (some ⟨gg,0,none⟩)),.int .i64 (x.deep:Int),sv,wv])) W7):=Lib.hid (by
  obtain⟨h1,h2,h3,h4,h5⟩:=HG.out;refine⟨_,rfl,h1,h2,h3,?_,(h5.1.below HB6.out.1).grow HG7.out (by omega) (by have:=HP.out;omega),?_⟩
  ·exact((h4.agree ((Agree.refl _ _).below HB6.out.1)).agree (agree_grown HG7.out HL1.out)).lo (Nat.le_of_lt HL1.out)
  ·exact node_grown2 (grow_trans (grow_trans (grown_below HB1.out _) h5.2) (grown_below HB6.out.1 _)) HG7.out)
 exact bodyPost_ret (results_blk Tryz.results220 rfl HZ7.out Tryz.underlying96 info_thing) rfl HF.out
theorem bin_conc {w0 W W1 W2 W3:World} {p en k1 o1 k2 o2 gB:Nat} {tv:Value} {s:List UInt8} {x y z:Th} {tt t2:TypeId} {gg g2:Nat} {sv wv s2 v2:Value}
  (hx:Got w0 p tv en W x k1 o1 ⟨.iface tt (.pointer (some ⟨gg,0,none⟩)),x.deep,sv,wv⟩ W1) (hb:Blk W2 gB 181 #[.string ⟨s.toArray⟩,.nilIface,.nilIface,.bool false,.bool false,.bool false,.slice none 0 0,.int .i64 0,.slice none 0 0]) (hgB:W1.heap.size≤gB) (h12:W1.grownBy W2 (some p)) (hp:p<W.heap.size)
  (hy:Got w0 p tv en W2 y k2 o2 ⟨.iface t2 (.pointer (some ⟨g2,0,none⟩)),y.deep,s2,v2⟩ W3) (hz:mkB s x y=some z) (hw0:w0.heap.size≤p):
  Calls Tryz.prog 102 #[.iface 179 (.pointer (some ⟨gB,0,none⟩)),.slice (some ⟨W3.heap.size,0,none⟩) 2 2] (W3.alloc (.cells #[.iface tt (.pointer (some ⟨gg,0,none⟩)),.int .i64 (x.deep:Int),sv,wv,.iface t2 (.pointer (some ⟨g2,0,none⟩)),.int .i64 (y.deep:Int),s2,v2] 96)) fun e W4=>e= .returned (.agg #[.iface 179 (.pointer (some ⟨gB,0,none⟩)),.int .i64 ((z.deep:Nat):Int),.pointer none,.pointer none])∧W3.grownBy W4 (some gB)∧
   Got w0 p tv en W z k2 o2 ⟨.iface 179 (.pointer (some ⟨gB,0,none⟩)),z.deep,.pointer none,.pointer none⟩ W4:=bin_node hx hb hgB h12 hp hy hz hw0
theorem isO_lt {s:List UInt8} {ts:List Tok} {k:Nat} (h:isO s (ts.drop k)=true):k<ts.length:=by
 rcases Nat.lt_or_ge k ts.length with hk|hk
 ·exact hk
 ·rw[List.drop_eq_nil_of_le hk]at h;simp[isO,tk0]at h
theorem pa_pow1 {w0 W:World} {p en k o k1 o1 k2 o2:Nat} {tv:Value} {ts:List Tok} {x y z:Th} (H:PH w0 p tv ts) (hs:PS w0 p tv en k o W)
  (hq: ∀W',PS w0 p tv en k o W'→Calls Tryz.prog 254 #[pV p] W' (PPost w0 p tv en W' x k1 o1)) (he:isO [94] (ts.drop k1)=true) (hbare:bare (ts.drop (k1+1))=true)
  (hu: ∀W',PS w0 p tv en (k1+1) o1 W'→Calls Tryz.prog 183 #[pV p] W' (PPost w0 p tv en W' y k2 o2)) (hz:mkB [94] x y=some z):
  Calls Tryz.prog 220 #[pV p] W (PPost w0 p tv en W z k2 o2):=by
 have hk1:k1<ts.length:=isO_lt he;have hkl:=H.toks.len;have HIS:Hid (∀W',PS w0 p tv en k1 o1 W'→Calls Tryz.prog 53 #[pV p,.string ⟨#[94]⟩] W' fun e W2=>e= .returned (.bool true)∧Below W'.heap.size W' W2):=Lib.hid fun W' hs'=>by
  have:=pa_is [94] hs' H.toks (Nat.le_of_lt hk1);rw[he]at this;exact this
 have HMO:Hid (∀W' bv,PS w0 p tv en (k1+1) o1 W'→Calls Tryz.prog 185 #[pV p,bv] W' fun e W2=>(∃r,e= .returned r)∧Below W'.heap.size W' W2):=Lib.hid fun W' bv hs'=>pa_mods bv hs' H.toks H.short hk1 hbare
 have HU:=Lib.hid hu;have HZZ:=Lib.hid hz;have HP:=Lib.hid H.hp;obtain⟨W1,hW1⟩: ∃W1,W1=W.alloc (.cells #[.nilIface,.int .i64 0,.pointer none,.pointer none] 96):=⟨_,rfl⟩;have hb1:Below W.heap.size W W1:=by rw[hW1];exact(Below.refl _ W).alloc (Nat.le_refl _) _
 have hz1:Blk W1 W.heap.size 96 zThing:=by rw[hW1];exact Blk.new _ _ _
 have HQ:=Lib.hid (hq W1 (hs.below hb1));have HW1:=Lib.hid hW1;have HB1:=Lib.hid hb1;have HZ1:=Lib.hid hz1;have hpl:=hs.z.lt;clear hW1 hb1 hz1 hs hq hu hz H he hbare;simp only[pV]at HQ HIS HMO HU ⊢
 go_enter Tryz.func220,Tryz.ntmps220;go_upto_region 1 with(fail)
 rw[←HW1.out];go_wp2_with fail;refine HQ.out.mono ?_;intro e W2 hpp;obtain⟨tt,gg,sv,wv,rfl,hall,hsv,hwv,hgot⟩:=hpp.conc;have HALL:=Lib.hid hall;have HG:=Lib.hid hgot;have hpx:p≠W.heap.size:=by omega
 have HL1:Hid (W.heap.size<W1.heap.size):=Lib.hid HZ1.out.lt;have HZT2:Hid (Blk W2 W.heap.size 96 zThing):=Lib.hid (HZ1.out.grown hgot.went.2 (by simpa using hpx.symm));clear hgot hpp hall;go_wp2_with (refine wpList_store_blk rfl 96 (.tmp 3) (.tmp 6) rfl W2.heap.size _ rfl rfl (Blk.new _ _ _) info_thing rfl HALL.out ?_);intro W3 hz3 hg3;have HB3:Hid (Below W2.heap.size W2 W3):=Lib.hid (below_grow ((Below.refl W2.heap.size W2).alloc (Nat.le_refl _) _) hg3 (by simp) (Nat.le_refl _));have HZ3:=Lib.hid hz3;clear hz3 hg3;go_wp2_with fail;refine(HIS.out _ (HG.out.went.1.below HB3.out)).mono ?_;rintro e W4 ⟨rfl,hb4⟩;have HB4:Hid (Below W2.heap.size W2 W4∧Blk W4 W2.heap.size 96 #[.iface tt (.pointer (some ⟨gg,0,none⟩)),.int .i64 (x.deep:Int),sv,wv]):=Lib.hid ⟨HB3.out.trans (hb4.mono HB3.out.size),HZ3.out.below hb4 HZ3.out.lt⟩;have hs4:=HG.out.went.1.below HB4.out.1;have c1:W4.cell? ⟨p,1,none⟩=some (.int .i64 (k1:Int)):=hs4.z.cell 1;have f1:=hs4.z.frozen 1;obtain⟨ha,hga⟩:=hs4.set1 (k':=k1+1) HP.out;rw[show ((k1+1:Nat):Int)=(k1:Int)+1 by omega]at ha hga;have hp2:p<W2.heap.size:=HG.out.went.1.z.lt;obtain⟨W5,hW5⟩: ∃W5,W5=W4.setCell ⟨p,1,none⟩ (.int .i64 ((k1:Int)+1)):=⟨_,rfl⟩;have hz5:Blk W5 W2.heap.size 96 #[.iface tt (.pointer (some ⟨gg,0,none⟩)),.int .i64 (x.deep:Int),sv,wv]:=by rw[hW5];exact HB4.out.2.far (p:=⟨p,1,none⟩) (by show W2.heap.size≠p;omega) _
 rw[←hW5]at ha hga;have hzb:=Blk.new W5 181 (binC ⟨#[94]⟩ .nilIface .nilIface);have hb56:Below W5.heap.size W5 (W5.alloc (.cells (binC ⟨#[94]⟩ .nilIface .nilIface) 181)):=(Below.refl _ _).alloc (Nat.le_refl _) _;have HZ5:=Lib.hid hz5;have HA:=Lib.hid ha;have HGA:=Lib.hid hga;have HZB:=Lib.hid hzb;have HB56:=Lib.hid hb56;have HW5:=Lib.hid hW5;clear hb4 hs4 ha hga hz5 hzb hb56 hW5;simp only[binC]at HZB HB56;go_upto_region 5 with(fail)
 rw[←HW5.out];go_wp2_with fail;refine(HMO.out _ _ (HA.out.below HB56.out)).mono ?_;rintro e W7 ⟨⟨r,rfl⟩,hb7⟩;have hb57:=HB56.out.trans (hb7.mono HB56.out.size);have HS7:Hid (PS w0 p tv en (k1+1) o1 W7.drew):=Lib.hid ((HA.out.below hb57).below (Below.refl _ _).drew);have hgr:W2.grownBy W7.drew (some p):=grow_trans (grow_trans (grow_trans (grown_below HB4.out.1 _) HGA.out) (grown_below hb57 _)) (grown_below (Below.refl _ _).drew _);have HGR:=Lib.hid hgr;have hx7:=HZ5.out.below hb57 HZ5.out.lt;have HX7:=Lib.hid hx7.drew;have c0:W7.cell? ⟨W2.heap.size,0,none⟩=some (.iface tt (.pointer (some ⟨gg,0,none⟩))):=hx7.cell 0;have c1:W7.cell? ⟨W2.heap.size,1,none⟩=some (.int .i64 (x.deep:Int)):=hx7.cell 1;have c2:W7.cell? ⟨W2.heap.size,2,none⟩=some sv:=hx7.cell 2;have c3:W7.cell? ⟨W2.heap.size,3,none⟩=some wv:=hx7.cell 3;have HB7:Hid (Blk W7.drew W5.heap.size 181 #[.string ⟨#[94]⟩,.nilIface,.nilIface,.bool false,.bool false,.bool false,.slice none 0 0,.int .i64 0,.slice none 0 0]):=Lib.hid (HZB.out.below hb7 HZB.out.lt).drew;have HL5:Hid (W2.heap.size≤W5.heap.size):=Lib.hid (Nat.le_trans HB4.out.1.size HGA.out.size);have HZT7:Hid (Blk W7.drew W.heap.size 96 zThing):=Lib.hid (HZT2.out.grown hgr (by simpa using hpx.symm));clear hb7 hb57 hgr hx7;go_wp2_with fail;go_region_with (first|(go_at_call 183;(with_reducible refine(HU.out _ HS7.out).mono ?_);intro e W8 hpp;obtain⟨t2,g2,s2,v2,rfl,hall2,hs2,hv2,hgot⟩:=hpp.conc;have HG2:=Lib.hid hgot;have hx8:=HX7.out.grown hgot.went.2 (by simp;omega);have q0:W8.cell? ⟨W2.heap.size,0,none⟩=some (.iface tt (.pointer (some ⟨gg,0,none⟩))):=hx8.cell 0;have q1:W8.cell? ⟨W2.heap.size,1,none⟩=some (.int .i64 (x.deep:Int)):=hx8.cell 1;have q2:W8.cell? ⟨W2.heap.size,2,none⟩=some sv:=hx8.cell 2;have q3:W8.cell? ⟨W2.heap.size,3,none⟩=some wv:=hx8.cell 3;have HZT8:Hid (Blk W8 W.heap.size 96 zThing):=Lib.hid (HZT7.out.grown hgot.went.2 (by simpa using hpx.symm));clear hpp hgot hx8 hall2)|(go_at_call 102;(with_reducible refine(bin_conc HG.out HB7.out HL5.out HGR.out (Nat.lt_of_lt_of_le hpl HB1.out.size) HG2.out HZZ.out HP.out).mono ?_);rintro e W9 ⟨rfl,hg9,hgo9⟩;have HG9:=Lib.hid hgo9;have hz9:=HZT8.out.grown hg9 (by have:=HL1.out;have:=HG.out.went.2.size;have:=HL5.out;simp;omega);have HZ9:=Lib.hid hz9;have z0:W9.cell? ⟨W.heap.size,0,none⟩=some .nilIface:=hz9.cell 0;have z1:W9.cell? ⟨W.heap.size,1,none⟩=some (.int .i64 0):=hz9.cell 1;have z2:W9.cell? ⟨W.heap.size,2,none⟩=some (.pointer none):=hz9.cell 2;have z3:W9.cell? ⟨W.heap.size,3,none⟩=some (.pointer none):=hz9.cell 3;have f0:=hz9.frozen 0;have f1:=hz9.frozen 1;have f2:=hz9.frozen 2;have f3:=hz9.frozen 3;clear hg9 hgo9 hz9))
 all_goals
  have hs4:=set4t HZ9.out (.iface 179 (.pointer (some ⟨W5.heap.size,0,none⟩))) (.int .i64 ((z.deep:Nat):Int)) (.pointer none) (.pointer none);have HS4:=Lib.hid hs4;have HF:Hid (∀W',W9.grownBy W' (some W.heap.size)→PPost w0 p tv en W z k2 o2 (.returned (.agg #[.iface 179 (.pointer (some ⟨W5.heap.size,0,none⟩)),.int .i64 ((z.deep:Nat):Int),.pointer none,.pointer none])) W'):=Lib.hid fun W' hg=>by
   obtain⟨h1,h2,h3,h4,h5⟩:=HG9.out;exact⟨_,rfl,h1,h2,h3,(h4.agree (agree_grown hg HL1.out)).lo (Nat.le_of_lt HL1.out),h5.1.grow hg hpx (by have:=HP.out;omega),node_grown2 (grow_trans (grown_below HB1.out _) h5.2) hg⟩
  clear hs4;go_wp2_with fail;exact bodyPost_ret (results_blk Tryz.results220 rfl HS4.out.1 Tryz.underlying96 info_thing) rfl (HF.out _ HS4.out.2)
def sgn (ts:List Tok):Bool:=isO [43] ts||isO [45] ts
theorem sgn_lt {ts:List Tok} {k:Nat} (h:sgn (ts.drop k)=true):k<ts.length:=by
 simp only[sgn,Bool.or_eq_true]at h;exact h.elim isO_lt isO_lt
theorem PS.growQ {w0 W W':World} {p en k o:Nat} {tv:Value} {q:Option Nat} (h:PS w0 p tv en k o W) (hg:W.grownBy W' q) (hq:q≠some p) (hw: ∀r,q=some r→w0.heap.size≤r):PS w0 p tv en k o W':=
 ⟨h.z.grown hg (Ne.symm hq),h.b.grown hg h.b.size hw⟩
theorem grown_offQ {W Wa Wb:World} {r q:Option Nat} (h1:W.grownBy Wa r) (h2:Wa.grownBy Wb q) (hq: ∀g,q=some g→W.heap.size≤g):W.grownBy Wb r:=
 ⟨h2.os.trans h1.os,h2.tape.trans h1.tape,h2.output.trans h1.output,Nat.le_trans h1.size h2.size,fun k hk hne=>(h2.block k (Nat.lt_of_lt_of_le hk h1.size) (by intro e;have:=hq k e.symm;omega)).trans (h1.block k hk hne)⟩
def sgs (ts:List Tok) (k i:Nat):List Value:=(List.range i).map fun j=>.string (txB (ts.drop (k+j)))
theorem sgs_succ (ts:List Tok) (k i:Nat):sgs ts k (i+1)=sgs ts k i++[.string (txB (ts.drop (k+i)))]:=by simp[sgs,List.range_succ]
structure UI (w0 W1:World) (p:Nat) (tv:Value) (en k o:Nat) (ts:List Tok) (i:Nat) (v:Value) (W':World):Prop where
 ps:PS w0 p tv en (k+i) o W'
 gr:W1.grownBy W' (some p)
 own:W'.ownsRow W1.heap.size 9 1 v i (sgs ts k i)
theorem own_apart {w : World} {base : Nat} {e : TypeId} {size n p : Nat} {v : Value} {xs : List Value} (h : w.ownsRow base e size v n xs) (hp : p < base) : v.ownBlock ≠ some p ∧ ∀ g, v.ownBlock = some g → base ≤ g := by
  rcases own_cases h with⟨rfl,_⟩|⟨g,c,rfl,_,hb⟩
  · exact ⟨(by intro h; cases h), (by intro g h; cases h)⟩
  · exact ⟨(by intro h; have : g = p := by injection h
               omega), (by intro r h; have : g = r := by injection h
                           omega)⟩
theorem own_sln {w:World} {base:Nat} {e:TypeId} {size n:Nat} {v:Value} {xs:List Value} (h:w.ownsRow base e size v n xs): ∃ao c,v= .slice ao n c:=by
 rcases own_cases h with⟨rfl,rfl⟩|⟨g,c,rfl,_⟩
 ·exact⟨_,_,rfl⟩
 ·exact⟨_,_,rfl⟩
theorem UI.below {w0 W1 W W':World} {p en k o i:Nat} {tv v:Value} {ts:List Tok} (h:UI w0 W1 p tv en k o ts i v W) (hb:Below W.heap.size W W'):UI w0 W1 p tv en k o ts i v W':=
 ⟨h.ps.below hb,grow_trans h.gr (grown_below hb _),own_belowE h.own hb⟩
theorem UI.push {w0 W1 W W2:World} {p en k o i:Nat} {tv v v':Value} {ts:List Tok} (h:UI w0 W1 p tv en k o ts i v W) (hp:w0.heap.size≤p) (hp1:p<W1.heap.size) (ho:W2.ownsRow W1.heap.size 9 1 v' (i+1) (sgs ts k i++[.string (txB (ts.drop (k+i)))])) (hg:W.grownBy W2 v.ownBlock):
  PS w0 p tv en (k+i) o W2∧UI w0 W1 p tv en k o ts (i+1) v' (W2.setCell ⟨p,1,none⟩ (.int .i64 (((k+i:Nat):Int)+1))):=by
 obtain⟨a1,a2⟩:=own_apart h.own hp1;have hb:=h.ps.b.size;have hs:PS w0 p tv en (k+i) o W2:=h.ps.growQ hg a1 (fun r hr=>by have:=a2 r hr;omega);obtain⟨s1,s2⟩:=hs.set1 (k':=k+(i+1)) hp;rw[show ((k+(i+1):Nat):Int)=((k+i:Nat):Int)+1 by omega]at s1 s2;obtain⟨b1,_⟩:=own_apart ho hp1;refine⟨hs,s1,grow_trans (grown_offQ h.gr hg a2) s2,?_⟩;rw[sgs_succ];exact own_grown ho s2 (fun g hgb e=>b1 (hgb.trans e))
structure UJ (w0 W1:World) (p q zt:Nat) (tv:Value) (en k1 o1:Nat) (ts:List Tok) (k m:Nat) (v:Value) (x:Th) (tt:TypeId) (gg:Nat) (sv wv:Value) (W':World):Prop where
 one:sv.oneCell'=true∧wv.oneCell'=true
 blk:Blk W' q 96 #[.iface tt (.pointer (some ⟨gg,0,none⟩)),.int .i64 (x.deep:Int),sv,wv]
 tree:TT (fun g=>W1.heap.size≤g∧g≠q) W' (.iface tt (.pointer (some ⟨gg,0,none⟩))) x.rows
 went:Went w0 p tv en k1 o1 W1 W'
 own:W'.ownsRow W1.heap.size 9 1 v m (sgs ts k m)
 z:Blk W' zt 96 zThing
 lo:W1.heap.size≤q∧w0.heap.size≤p∧p<W1.heap.size∧zt<W1.heap.size
theorem UJ.step {w0 W1 wr Wn W4 W5:World} {p q zt en k1 o1 k m gg g:Nat} {tv v sv wv:Value} {ts:List Tok} {x z:Th} {tt:TypeId} {s:List UInt8} (h:UJ w0 W1 p q zt tv en k1 o1 ts k m v x tt gg sv wv wr)
  (hb:Below wr.heap.size wr Wn) (hg:wr.heap.size≤g) (hbn:Blk W4 g 178 #[.string ⟨s.toArray⟩,.iface tt (.pointer (some ⟨gg,0,none⟩))]) (h4:Wn.grownBy W4 (some g)) (hz:z=⟨rUn s::x.rows,x.deep+1⟩) (h5:W4.grownBy W5 (some q))
  (b5:Blk W5 q 96 #[.iface 176 (.pointer (some ⟨g,0,none⟩)),.int .i64 (z.deep:Int),.pointer none,.pointer none]):
  UJ w0 W1 p q zt tv en k1 o1 ts k m v z 176 g (.pointer none) (.pointer none) W5:=by
 subst hz;obtain⟨l1,l2,l3,l4⟩:=h.lo;have hql:=h.blk.lt;have hgr:wr.grownBy W5 (some q):=grow_trans (grown_off (grown_below hb (some q)) h4 hg) h5;have hsz:W1.heap.size≤wr.heap.size:=h.went.2.size;refine⟨⟨rfl,rfl⟩,b5,?_,⟨h.went.1.grow hgr (by omega) (by omega),grown_offQ h.went.2 hgr (by intro r hr;injection hr;omega)⟩,h.own.kept hgr (.inr (own_blk_ne h.own h.blk (by decide))),h.z.grown hgr (by intro e;injection e;omega),h.lo⟩;refine TT.un _ (.iface tt (.pointer (some ⟨gg,0,none⟩))) _ _ ⟨g,_,_,⟨by omega,by omega⟩,hbn.grown h5 (by intro e;injection e;omega),fun _ h=>.unary g (Nat.le_refl _) h.lt ⟨s.toArray⟩ tt _ (h.cell 0) (h.cell 1)⟩ (h.tree.to fun r hr hlt=>⟨hr,hgr.block r hlt (by intro e;injection e;omega)⟩)
theorem mkU_some {s:List UInt8} {x z:Th} (h:mkU s x=some z):x.deep+1≤128∧z=⟨rUn s::x.rows,x.deep+1⟩:=by
 unfold mkU at h;split at h
 ·rename_i h1;injection h with h;exact⟨h1,h.symm⟩
 ·cases h
def UPost (w0 W1:World) (p q zt:Nat) (tv:Value) (en k1 o1:Nat) (ts:List Tok) (k m:Nat) (v:Value) (x z:Th) (old:Array Value) (g:Nat) (e:Ending) (W4:World):Prop:=
 e= .returned (.agg #[.iface 176 (.pointer (some ⟨g,0,none⟩)),.int .i64 (z.deep:Int),.pointer none,.pointer none])∧Blk W4 q 96 old∧
  ∀W5,W4.grownBy W5 (some q)→Blk W5 q 96 #[.iface 176 (.pointer (some ⟨g,0,none⟩)),.int .i64 (z.deep:Int),.pointer none,.pointer none]→UJ w0 W1 p q zt tv en k1 o1 ts k m v z 176 g (.pointer none) (.pointer none) W5
theorem un_nodeA {w0 W1 wr:World} {p q zt en k1 o1 k m gg:Nat} {tv v sv wv:Value} {ts:List Tok} {x z:Th} {tt:TypeId} {s:List UInt8} (h:UJ w0 W1 p q zt tv en k1 o1 ts k m v x tt gg sv wv wr) (hz:mkU s x=some z):
  Calls Tryz.prog 102 #[.iface 176 (.pointer (some ⟨wr.heap.size,0,none⟩)),.slice (some ⟨wr.heap.size+1,0,none⟩) 1 1] ((wr.alloc (.cells #[.string ⟨s.toArray⟩,.nilIface] 178)).alloc (.cells #[.iface tt (.pointer (some ⟨gg,0,none⟩)),.int .i64 (x.deep:Int),sv,wv] 96)).drew
   (UPost w0 W1 p q zt tv en k1 o1 ts k m v x z #[.iface tt (.pointer (some ⟨gg,0,none⟩)),.int .i64 (x.deep:Int),sv,wv] (wr.heap.size)):=by
 obtain⟨hd,hz⟩:=mkU_some hz;have hb1:Below wr.heap.size wr (wr.alloc (.cells #[.string ⟨s.toArray⟩,.nilIface] 178)):=(Below.refl _ _).alloc (Nat.le_refl _) _;have hbn:Below wr.heap.size wr ((wr.alloc (.cells #[.string ⟨s.toArray⟩,.nilIface] 178)).alloc (.cells #[.iface tt (.pointer (some ⟨gg,0,none⟩)),.int .i64 (x.deep:Int),sv,wv] 96)).drew:=(hb1.alloc hb1.size _).drew;have hA:((wr.alloc (.cells #[.string ⟨s.toArray⟩,.nilIface] 178)).alloc (.cells #[.iface tt (.pointer (some ⟨gg,0,none⟩)),.int .i64 (x.deep:Int),sv,wv] 96)).drew.heap[wr.heap.size]? =some (.cells #[.string ⟨s.toArray⟩,.nilIface] 178 (0,0)):=((Blk.new wr _ _).alloc _).drew;have hB:((wr.alloc (.cells #[.string ⟨s.toArray⟩,.nilIface] 178)).alloc (.cells #[.iface tt (.pointer (some ⟨gg,0,none⟩)),.int .i64 (x.deep:Int),sv,wv] 96)).drew.heap[wr.heap.size+1]? =some (.cells #[.iface tt (.pointer (some ⟨gg,0,none⟩)),.int .i64 (x.deep:Int),sv,wv] 96 (0,0)):=by simpa [Blk]using (Blk.new (wr.alloc (.cells #[.string ⟨s.toArray⟩,.nilIface] 178)) _ _).drew
 have hu:Blk ((wr.alloc (.cells #[.string ⟨s.toArray⟩,.nilIface] 178)).alloc (.cells #[.iface tt (.pointer (some ⟨gg,0,none⟩)),.int .i64 (x.deep:Int),sv,wv] 96)).drew (wr.heap.size) 178 #[.string ⟨s.toArray⟩,.nilIface]:=hA;have ht:Blk ((wr.alloc (.cells #[.string ⟨s.toArray⟩,.nilIface] 178)).alloc (.cells #[.iface tt (.pointer (some ⟨gg,0,none⟩)),.int .i64 (x.deep:Int),sv,wv] 96)).drew (wr.heap.size+1) 96 #[.iface tt (.pointer (some ⟨gg,0,none⟩)),.int .i64 (x.deep:Int),sv,wv]:=hB;have hk:KidsS ((wr.alloc (.cells #[.string ⟨s.toArray⟩,.nilIface] 178)).alloc (.cells #[.iface tt (.pointer (some ⟨gg,0,none⟩)),.int .i64 (x.deep:Int),sv,wv] 96)).drew (.slice (some ⟨wr.heap.size+1,0,none⟩) 1 1) [⟨.iface tt (.pointer (some ⟨gg,0,none⟩)),x.deep,sv,wv⟩]:=by
  refine⟨_,1,rfl,fun j hj=>⟨wr.heap.size+1,0,rfl,ht.lt,?_⟩⟩;have hj2:j=0:=by simpa using hj
  subst hj2;exact⟨ht.cell 0,ht.cell 1,ht.cell 2,ht.cell 3⟩
 refine(pa_un (t0:=⟨.iface tt (.pointer (some ⟨gg,0,none⟩)),x.deep,sv,wv⟩) hu hk ⟨rfl,h.one.1,h.one.2⟩ hd ⟨_,_,rfl⟩).mono ?_;rintro e W4 ⟨rfl,hb4,hg4⟩;refine⟨by rw[hz];rfl,(h.blk.below hbn h.blk.lt).grown hg4 (by have:=h.blk.lt;simp;omega),fun W5 h5 b5=>h.step hbn (Nat.le_refl _) hb4 hg4 hz h5 b5⟩
theorem un_nodeB {w0 W1 wr:World} {p q zt en k1 o1 k m gg:Nat} {tv v sv wv:Value} {ts:List Tok} {x z:Th} {tt:TypeId} {s:List UInt8} (h:UJ w0 W1 p q zt tv en k1 o1 ts k m v x tt gg sv wv wr) (hz:mkU s x=some z):
  Calls Tryz.prog 102 #[.iface 176 (.pointer (some ⟨wr.heap.size+1,0,none⟩)),.slice (some ⟨wr.heap.size,0,none⟩) 1 1] ((wr.alloc (.cells #[.iface tt (.pointer (some ⟨gg,0,none⟩)),.int .i64 (x.deep:Int),sv,wv] 96)).alloc (.cells #[.string ⟨s.toArray⟩,.nilIface] 178)).drew
   (UPost w0 W1 p q zt tv en k1 o1 ts k m v x z #[.iface tt (.pointer (some ⟨gg,0,none⟩)),.int .i64 (x.deep:Int),sv,wv] (wr.heap.size+1)):=by
 obtain⟨hd,hz⟩:=mkU_some hz;have hb1:Below wr.heap.size wr (wr.alloc (.cells #[.iface tt (.pointer (some ⟨gg,0,none⟩)),.int .i64 (x.deep:Int),sv,wv] 96)):=(Below.refl _ _).alloc (Nat.le_refl _) _;have hbn:Below wr.heap.size wr ((wr.alloc (.cells #[.iface tt (.pointer (some ⟨gg,0,none⟩)),.int .i64 (x.deep:Int),sv,wv] 96)).alloc (.cells #[.string ⟨s.toArray⟩,.nilIface] 178)).drew:=(hb1.alloc hb1.size _).drew;have hA:((wr.alloc (.cells #[.iface tt (.pointer (some ⟨gg,0,none⟩)),.int .i64 (x.deep:Int),sv,wv] 96)).alloc (.cells #[.string ⟨s.toArray⟩,.nilIface] 178)).drew.heap[wr.heap.size]? =some (.cells #[.iface tt (.pointer (some ⟨gg,0,none⟩)),.int .i64 (x.deep:Int),sv,wv] 96 (0,0)):=((Blk.new wr _ _).alloc _).drew;have hB:((wr.alloc (.cells #[.iface tt (.pointer (some ⟨gg,0,none⟩)),.int .i64 (x.deep:Int),sv,wv] 96)).alloc (.cells #[.string ⟨s.toArray⟩,.nilIface] 178)).drew.heap[wr.heap.size+1]? =some (.cells #[.string ⟨s.toArray⟩,.nilIface] 178 (0,0)):=by simpa [Blk]using (Blk.new (wr.alloc (.cells #[.iface tt (.pointer (some ⟨gg,0,none⟩)),.int .i64 (x.deep:Int),sv,wv] 96)) _ _).drew
 have hu:Blk ((wr.alloc (.cells #[.iface tt (.pointer (some ⟨gg,0,none⟩)),.int .i64 (x.deep:Int),sv,wv] 96)).alloc (.cells #[.string ⟨s.toArray⟩,.nilIface] 178)).drew (wr.heap.size+1) 178 #[.string ⟨s.toArray⟩,.nilIface]:=hB;have ht:Blk ((wr.alloc (.cells #[.iface tt (.pointer (some ⟨gg,0,none⟩)),.int .i64 (x.deep:Int),sv,wv] 96)).alloc (.cells #[.string ⟨s.toArray⟩,.nilIface] 178)).drew (wr.heap.size) 96 #[.iface tt (.pointer (some ⟨gg,0,none⟩)),.int .i64 (x.deep:Int),sv,wv]:=hA;have hk:KidsS ((wr.alloc (.cells #[.iface tt (.pointer (some ⟨gg,0,none⟩)),.int .i64 (x.deep:Int),sv,wv] 96)).alloc (.cells #[.string ⟨s.toArray⟩,.nilIface] 178)).drew (.slice (some ⟨wr.heap.size,0,none⟩) 1 1) [⟨.iface tt (.pointer (some ⟨gg,0,none⟩)),x.deep,sv,wv⟩]:=by
  refine⟨_,1,rfl,fun j hj=>⟨wr.heap.size,0,rfl,ht.lt,?_⟩⟩;have hj2:j=0:=by simpa using hj
  subst hj2;exact⟨ht.cell 0,ht.cell 1,ht.cell 2,ht.cell 3⟩
 refine(pa_un (t0:=⟨.iface tt (.pointer (some ⟨gg,0,none⟩)),x.deep,sv,wv⟩) hu hk ⟨rfl,h.one.1,h.one.2⟩ hd ⟨_,_,rfl⟩).mono ?_;rintro e W4 ⟨rfl,hb4,hg4⟩;refine⟨by rw[hz];rfl,(h.blk.below hbn h.blk.lt).grown hg4 (by have:=h.blk.lt;simp;omega),fun W5 h5 b5=>h.step hbn (Nat.le_succ _) hb4 hg4 hz h5 b5⟩
theorem pa_una {w0 W:World} {p en k o m k1 o1:Nat} {tv:Value} {ts:List Tok} {Z:Nat→Th} (H:PH w0 p tv ts) (hs:PS w0 p tv en k o W) (hk:k≤ts.length)
  (hm: ∀j,j<m→sgn (ts.drop (k+j))=true) (hn:sgn (ts.drop (k+m))=false)
  (hq: ∀W',PS w0 p tv en (k+m) o W'→Calls Tryz.prog 220 #[pV p] W' (PPost w0 p tv en W' (Z m) k1 o1))
  (hZ: ∀j,j<m→mkU (tx0 (ts.drop (k+j))) (Z (j+1))=some (Z j)):
  Calls Tryz.prog 183 #[pV p] W (PPost w0 p tv en W (Z 0) k1 o1):=by
 have hkl:=H.toks.len;have HKM:Hid (∀j,j≤m→k+j≤ts.length):=Lib.hid fun j hj=>by
  rcases Nat.eq_zero_or_pos j with rfl|hpos
  ·exact hk
  ·have:=sgn_lt (hm (j-1) (by omega));omega
 have HIS:Hid (∀s W' j,j≤m→PS w0 p tv en (k+j) o W'→Calls Tryz.prog 53 #[pV p,.string ⟨s.toArray⟩] W' fun e W2=>e= .returned (.bool (isO s (ts.drop (k+j))))∧Below W'.heap.size W' W2):=Lib.hid fun s W' j hj hs'=>pa_is s hs' H.toks (HKM.out j hj)
 have HPK:Hid (∀W' j,j≤m→PS w0 p tv en (k+j) o W'→Calls Tryz.prog 97 #[pV p] W' fun e W2=>e= .returned (peekV (ts.drop (k+j)))∧Below W'.heap.size W' W2):=Lib.hid fun W' j hj hs'=>pa_peek hs' H.toks (HKM.out j hj)
 have HM:=Lib.hid hm;have HN:=Lib.hid hn;have HZZ:=Lib.hid hZ;have HQ:=Lib.hid hq;have HP:=Lib.hid H.hp;obtain⟨W1,hW1⟩: ∃W1,W1=W.alloc (.cells #[.nilIface,.int .i64 0,.pointer none,.pointer none] 96):=⟨_,rfl⟩;have hb1:Below W.heap.size W W1:=by rw[hW1];exact(Below.refl _ W).alloc (Nat.le_refl _) _
 have hz1:Blk W1 W.heap.size 96 zThing:=by rw[hW1];exact Blk.new _ _ _
 have HS1:=Lib.hid (hs.below hb1);have HW1:=Lib.hid hW1;have HB1:=Lib.hid hb1;have HZ1:=Lib.hid hz1;have hpl:=hs.z.lt;have HPL:Hid (p<W1.heap.size):=Lib.hid (Nat.lt_of_lt_of_le hpl hb1.size);clear hW1 hb1 hz1 hs hq hm hn hZ H hk;simp only[pV]at HQ HIS HPK ⊢
 go_enter Tryz.func183,Tryz.ntmps183;go_upto_region 1 with(fail)
 rw[←HW1.out];go_wp2_with fail;go_loopw [3] (fun t3 W'=> ∃i:Nat,Hid (i≤m)∧Hid (UI w0 W1 p tv en k o ts i t3 W')) (fun t3 _=>match t3 with| .slice _ n _=>ts.length-n|_=>0)
 case atStart=>exact⟨0,Lib.hid (Nat.zero_le _),Lib.hid ⟨HS1.out,grown_below (Below.refl _ _) _,World.ownsRow_nil _ _ _ _⟩⟩
 case round=>
  obtain⟨i,hi,hI⟩:=hrel;by_cases him:i<m
  ·have hsg:=HM.out i him;obtain⟨a3,c3,hv3⟩:=own_sln hI.out.own;subst hv3;have hIS:=HIS.out [43] _ i hi.out hI.out.ps;cases h43:isO [43] (ts.drop (k+i))with
   |true=>
    rw[h43]at hIS;go_wp2_with fail;refine hIS.mono ?_;rintro e W2 ⟨rfl,hb2⟩;have HI2:=Lib.hid (hI.out.below hb2);clear hb2 hI;go_wp2_with fail;refine(HPK.out _ i hi.out HI2.out.ps).mono ?_;rintro e W3 ⟨rfl,hb3⟩;have HI3:=Lib.hid (HI2.out.below hb3);have HSZ3:Hid (W1.heap.size≤W3.heap.size):=Lib.hid HI3.out.gr.size;have fl:=fld1;have hil:i+1≤1099511627776:=by have:=HKM.out (i+1) him;omega
    simp only[peekV];clear hb3 hsg h43;go_wp2_with (at_builtin;refine wpList_push2 rfl (.tmp 12) (.tmp 16) 22 rfl W1.heap.size 9 _ 1 16 info_str Tryz.underlying22 rfl (by omega) _ _ _ rfl HI3.out.own [.string (txB (ts.drop (k+i)))] rfl (by rfl) (by intro u hu;simp at hu;rcases hu with rfl<;>rfl) (by unfold maxLen;omega) (by omega) HSZ3.out ?_);intro v4 W4 r1 r2 r3;obtain⟨hps4,hui4⟩:=HI3.out.push HP.out HPL.out r1 r2;have HI4:=Lib.hid hui4;have c1:W4.cell? ⟨p,1,none⟩=some (.int .i64 ((k+i:Nat):Int)):=hps4.z.cell 1;have f1:=hps4.z.frozen 1;obtain⟨a4,n4,hv4⟩:=own_sln r1;subst hv4;have hov:=HKM.out (i+1) him;rw[Int.natCast_add]at c1 HI4;clear r1 r2 r3 hps4 hui4 fl;go_wp2_with fail;go_roundw
    case rel=>exact⟨i+1,Lib.hid him,HI4⟩
    case measure=>have:=HKM.out (i+1) him;simp;omega
   |false=>
    have h45:isO [45] (ts.drop (k+i))=true:=by simpa [sgn,h43]using hsg
    rw[h43]at hIS;go_wp2_with fail;refine hIS.mono ?_;rintro e Wa ⟨rfl,hba⟩;have HIa:=Lib.hid (hI.out.below hba);clear hba hI;have hIS2:=HIS.out [45] _ i hi.out HIa.out.ps;rw[h45]at hIS2;go_wp2_with fail;refine hIS2.mono ?_;rintro e W2 ⟨rfl,hb2⟩;have HI2:=Lib.hid (HIa.out.below hb2);clear hb2 h45;go_wp2_with fail;refine(HPK.out _ i hi.out HI2.out.ps).mono ?_;rintro e W3 ⟨rfl,hb3⟩;have HI3:=Lib.hid (HI2.out.below hb3);have HSZ3:Hid (W1.heap.size≤W3.heap.size):=Lib.hid HI3.out.gr.size;have fl:=fld1;have hil:i+1≤1099511627776:=by have:=HKM.out (i+1) him;omega
    simp only[peekV];clear hb3 hsg h43;go_wp2_with (at_builtin;refine wpList_push2 rfl (.tmp 12) (.tmp 16) 22 rfl W1.heap.size 9 _ 1 16 info_str Tryz.underlying22 rfl (by omega) _ _ _ rfl HI3.out.own [.string (txB (ts.drop (k+i)))] rfl (by rfl) (by intro u hu;simp at hu;rcases hu with rfl<;>rfl) (by unfold maxLen;omega) (by omega) HSZ3.out ?_);intro v4 W4 r1 r2 r3;obtain⟨hps4,hui4⟩:=HI3.out.push HP.out HPL.out r1 r2;have HI4:=Lib.hid hui4;have c1:W4.cell? ⟨p,1,none⟩=some (.int .i64 ((k+i:Nat):Int)):=hps4.z.cell 1;have f1:=hps4.z.frozen 1;obtain⟨a4,n4,hv4⟩:=own_sln r1;subst hv4;have hov:=HKM.out (i+1) him;rw[Int.natCast_add]at c1 HI4;clear r1 r2 r3 hps4 hui4 fl;go_wp2_with fail;go_roundw
    case rel=>exact⟨i+1,Lib.hid him,HI4⟩
    case measure=>have:=HKM.out (i+1) him;simp;omega
  ·have him2:i=m:=by have:=hi.out;omega
   subst him2;obtain⟨a3,c3,hv3⟩:=own_sln hI.out.own;subst hv3;have hng:=HN.out;simp only[sgn,Bool.or_eq_false_iff]at hng;obtain⟨h43,h45⟩:=hng;have hIS:=HIS.out [43] _ i hi.out hI.out.ps;rw[h43]at hIS;go_wp2_with fail;refine hIS.mono ?_;rintro e Wa ⟨rfl,hba⟩;have HIa:=Lib.hid (hI.out.below hba);clear hba hI;have hIS2:=HIS.out [45] _ i hi.out HIa.out.ps;rw[h45]at hIS2;go_wp2_with fail;refine hIS2.mono ?_;rintro e W2 ⟨rfl,hb2⟩;have HI2:=Lib.hid (HIa.out.below hb2);clear hb2 h45 h43;go_wp2_with fail;refine(HQ.out _ HI2.out.ps).mono ?_;intro e W3 hpp;obtain⟨tt,gg,sv,wv,rfl,hall,hsv,hwv,hgot⟩:=hpp.conc;have HALL:=Lib.hid hall;have HG:=Lib.hid (And.intro hsv (And.intro hwv hgot));clear hpp hall hsv hwv hgot;go_wp2_with (refine wpList_store_blk rfl 96 (.tmp 4) (.tmp 26) rfl W3.heap.size _ rfl rfl (Blk.new _ _ _) info_thing rfl HALL.out ?_);intro W4 hz4 hg4;have hb4:Below W3.heap.size W3 W4:=below_grow ((Below.refl W3.heap.size W3).alloc (Nat.le_refl _) _) hg4 (by simp) (Nat.le_refl _);have hpx:p≠W.heap.size:=by omega
   have HUJ:Hid (UJ w0 W1 p W3.heap.size W.heap.size tv en k1 o1 ts k i (.slice a3 i c3) (Z i) tt gg sv wv W4):=Lib.hid (by
    obtain⟨hsv,hwv,h1,h2,h3,h4,h5⟩:=HG.out;have hw3:W1.heap.size≤W3.heap.size:=Nat.le_trans HI2.out.gr.size h5.2.size;have hz2:=HZ1.out.grown (grow_trans HI2.out.gr h5.2) (by simpa using hpx.symm);exact⟨⟨hsv,hwv⟩,hz4,h4.to (fun r hr hlt=>⟨⟨Nat.le_trans HI2.out.gr.size hr,by omega⟩,hb4.block r hlt⟩),⟨h5.1.below hb4,grow_trans (grow_trans HI2.out.gr h5.2) (grown_below hb4 _)⟩,own_belowE (own_grown HI2.out.own h5.2 (fun r hr e=>(own_apart HI2.out.own HPL.out).1 (hr.trans e))) hb4,hz2.below hb4 hz2.lt,hw3,HP.out,HPL.out,HZ1.out.lt⟩)
   clear hz4 hg4 hb4;go_wp2_with fail;go_loopw [5] (fun t5 W'=> ∃(J:Int) (j:Nat),t5= .int .i64 J∧Hid (J=(j:Int)-1∧j≤i)∧Hid (∃tt gg sv wv,UJ w0 W1 p W3.heap.size W.heap.size tv en k1 o1 ts k i (.slice a3 i c3) (Z j) tt gg sv wv W')) (fun t5 _=>(intOf t5+1).toNat)
   case atStart=>exact⟨_,i,rfl,Lib.hid ⟨(by have:=HKM.out i (Nat.le_refl _);exact IntWalk.wrap64_in _ (by omega)),Nat.le_refl _⟩,Lib.hid ⟨tt,gg,sv,wv,HUJ.out⟩⟩
   case round=>
    obtain⟨J,j,rfl,hJ,hJJ⟩:=hrel;obtain⟨tt,gg,sv,wv,huj⟩:=hJJ.out;have HUJ:=Lib.hid huj;by_cases h0:0≤J
    ·obtain⟨j',hj'⟩: ∃j':Nat,J=(j':Int):=⟨J.toNat,by omega⟩;subst hj';have hjj:j=j'+1:=by have:=hJ.out.1;omega
     subst hjj;have hjm:j'<i:=hJ.out.2;have hst:=HZZ.out j' hjm;obtain⟨op,hop⟩: ∃op,op=tx0 (ts.drop (k+j')):=⟨_,rfl⟩;have hcell: ∃g,a3=some ⟨g,0,none⟩∧g<wr.heap.size∧wr.cell? ⟨g,j',none⟩=some (.string ⟨op.toArray⟩):=by
      rcases own_cases huj.own with⟨_,h⟩|⟨g,c,h,hgl,_⟩
      ·omega
      ·injection h with h _ _
       subst h;refine⟨g,rfl,hgl,?_⟩;rw[World.ownsRow.cellAt huj.own j' (by omega)];simp[sgs,hjm,txB,hop]
     obtain⟨g,rfl,hgl,hcell⟩:=hcell;have hql:W3.heap.size<wr.heap.size:=huj.blk.lt;rw[←hop]at hst;have HST:=Lib.hid hst;have c0:wr.cell? ⟨W3.heap.size,0,none⟩=some (.iface tt (.pointer (some ⟨gg,0,none⟩))):=huj.blk.cell 0;have c1:wr.cell? ⟨W3.heap.size,1,none⟩=some (.int .i64 ((Z (j'+1)).deep:Int)):=huj.blk.cell 1;have c2:wr.cell? ⟨W3.heap.size,2,none⟩=some sv:=huj.blk.cell 2;have c4:wr.cell? ⟨W3.heap.size,3,none⟩=some wv:=huj.blk.cell 3;have p1:((j':Int)<(i:Int))=True:=eq_true (by omega);have hbi:=HKM.out i (Nat.le_refl _);clear huj hst hJJ hop;go_wp2_with fail;go_region_with (first|(go_at_call 102;(first|(with_reducible refine(un_nodeA HUJ.out HST.out).mono ?_)|(with_reducible refine(un_nodeB HUJ.out HST.out).mono ?_));rintro e W5 ⟨rfl,hq5,hfin⟩;have HQ5:=Lib.hid hq5;have HFIN:=Lib.hid hfin;have z0:W5.cell? ⟨W3.heap.size,0,none⟩=some (.iface tt (.pointer (some ⟨gg,0,none⟩))):=hq5.cell 0;have z1:W5.cell? ⟨W3.heap.size,1,none⟩=some (.int .i64 ((Z (j'+1)).deep:Int)):=hq5.cell 1;have z2:W5.cell? ⟨W3.heap.size,2,none⟩=some sv:=hq5.cell 2;have z3:W5.cell? ⟨W3.heap.size,3,none⟩=some wv:=hq5.cell 3;have f0:=hq5.frozen 0;have f1:=hq5.frozen 1;have f2:=hq5.frozen 2;have f3:=hq5.frozen 3;clear hq5 hfin))
     all_goals
      have HJ:=Lib.hid (HFIN.out _ (set4t HQ5.out _ _ _ _).2 (set4t HQ5.out _ _ _ _).1);clear z0 z1 z2 z3 f0 f1 f2 f3 c0 c1 c2 c4 hcell;go_wp2_with fail;go_roundw
      case rel=>exact⟨_,j',rfl,Lib.hid ⟨rfl,Nat.le_of_lt hJ.out.2⟩,Lib.hid ⟨_,_,_,_,HJ.out⟩⟩
      case measure=>simp[intOf]
    ·have p1:((0:Int)≤J)=False:=eq_false h0;have hj0:j=0:=by have:=hJ.out.1;omega
     subst hj0;have HZX:=Lib.hid huj.blk;have HZT6:=Lib.hid huj.z;have HALL2:Hid ((#[.iface tt (.pointer (some ⟨gg,0,none⟩)),.int .i64 ((Z 0).deep:Int),sv,wv]:Array Value).toList.all (·.oneCell')=true):=Lib.hid (TV.all (t:=⟨.iface tt (.pointer (some ⟨gg,0,none⟩)),(Z 0).deep,sv,wv⟩) ⟨rfl,huj.one.1,huj.one.2⟩);clear huj h0;go_wp2_with (first|(refine wpList_load_blk rfl 96 (.tmp 4) rfl W3.heap.size rfl HZX.out Tryz.underlying96 info_thing ?_)|(refine wpList_store_blk rfl 96 (.tmp 2) (.tmp 44) rfl W.heap.size _ rfl rfl HZT6.out info_thing rfl HALL2.out ?_;intro W7 hz7 hg7;have HZ7:=Lib.hid hz7;have HG7:=Lib.hid hg7;clear hz7 hg7));have HF:Hid (PPost w0 p tv en W (Z 0) k1 o1 (.returned (.agg #[.iface tt (.pointer (some ⟨gg,0,none⟩)),.int .i64 ((Z 0).deep:Int),sv,wv])) W7):=Lib.hid (by
      have h:=HUJ.out;have hl:=HZ1.out.lt;refine⟨⟨.iface tt (.pointer (some ⟨gg,0,none⟩)),(Z 0).deep,sv,wv⟩,rfl,⟨rfl,h.one.1,h.one.2⟩,⟨_,_,rfl⟩,rfl,h.tree.to (fun r hr hlt=>⟨by omega,HG7.out.block r hlt (by intro e;injection e;omega)⟩),h.went.1.grow HG7.out hpx (by have:=HP.out;omega),?_⟩;exact node_grown2 (grow_trans (grown_below HB1.out _) h.went.2) HG7.out)
     exact bodyPost_ret (results_blk Tryz.results183 rfl HZ7.out Tryz.underlying96 info_thing) rfl HF.out
structure BJ (w0 W1:World) (p q zt:Nat) (tv:Value) (en k o:Nat) (x:Th) (tt:TypeId) (gg:Nat) (sv wv:Value) (W':World):Prop where
 one:sv.oneCell'=true∧wv.oneCell'=true
 blk:Blk W' q 96 #[.iface tt (.pointer (some ⟨gg,0,none⟩)),.int .i64 (x.deep:Int),sv,wv]
 tree:TT (fun g=>W1.heap.size≤g∧g≠q) W' (.iface tt (.pointer (some ⟨gg,0,none⟩))) x.rows
 went:Went w0 p tv en k o W1 W'
 z:Blk W' zt 96 zThing
 lo:W1.heap.size≤q∧w0.heap.size≤p∧p<W1.heap.size∧zt<W1.heap.size∧p≠zt
theorem BJ.below {w0 W1 W W':World} {p q zt en k o gg:Nat} {tv sv wv:Value} {x:Th} {tt:TypeId} (h:BJ w0 W1 p q zt tv en k o x tt gg sv wv W) (hb:Below W.heap.size W W'):BJ w0 W1 p q zt tv en k o x tt gg sv wv W':=
 ⟨h.one,h.blk.below hb h.blk.lt,h.tree.to (fun _ hr hlt=>⟨hr,hb.block _ hlt⟩),⟨h.went.1.below hb,grow_trans h.went.2 (grown_below hb _)⟩,h.z.below hb h.z.lt,h.lo⟩
def BPost (w0 W1:World) (p q zt:Nat) (tv:Value) (en k2 o2:Nat) (z:Th) (old:Array Value) (g:Nat) (e:Ending) (W4:World):Prop:=
 e= .returned (.agg #[.iface 179 (.pointer (some ⟨g,0,none⟩)),.int .i64 (z.deep:Int),.pointer none,.pointer none])∧Blk W4 q 96 old∧
  ∀W5,W4.grownBy W5 (some q)→Blk W5 q 96 #[.iface 179 (.pointer (some ⟨g,0,none⟩)),.int .i64 (z.deep:Int),.pointer none,.pointer none]→BJ w0 W1 p q zt tv en k2 o2 z 179 g (.pointer none) (.pointer none) W5
theorem bj_node {w0 W1 wr Wd W8:World} {p q zt en k o k2 o2 gg g2 gB:Nat} {tv sv wv s2 v2:Value} {x y z:Th} {tt t2:TypeId} {s:List UInt8} (h:BJ w0 W1 p q zt tv en k o x tt gg sv wv wr) (hgB:wr.heap.size≤gB) (h1:wr.grownBy Wd (some p))
  (hb:Blk Wd gB 181 #[.string ⟨s.toArray⟩,.nilIface,.nilIface,.bool false,.bool false,.bool false,.slice none 0 0,.int .i64 0,.slice none 0 0])
  (hy:Got w0 p tv en Wd y k2 o2 ⟨.iface t2 (.pointer (some ⟨g2,0,none⟩)),y.deep,s2,v2⟩ W8) (hz:mkB s x y=some z):
  Calls Tryz.prog 102 #[.iface 179 (.pointer (some ⟨gB,0,none⟩)),.slice (some ⟨W8.heap.size,0,none⟩) 2 2] (W8.alloc (.cells #[.iface tt (.pointer (some ⟨gg,0,none⟩)),.int .i64 (x.deep:Int),sv,wv,.iface t2 (.pointer (some ⟨g2,0,none⟩)),.int .i64 (y.deep:Int),s2,v2] 96))
   (BPost w0 W1 p q zt tv en k2 o2 z #[.iface tt (.pointer (some ⟨gg,0,none⟩)),.int .i64 (x.deep:Int),sv,wv] gB):=by
 have hd:max x.deep y.deep+1≤128∧z=⟨rBin s::(x.rows++y.rows),max x.deep y.deep+1⟩:=by
  unfold mkB at hz;split at hz
  ·rename_i h;injection hz with hz;exact⟨h,hz.symm⟩
  ·cases hz
 obtain⟨hd,rfl⟩:=hd;obtain⟨l1,l2,l3,l4,l5⟩:=h.lo;have hWa:Below W8.heap.size W8 (W8.alloc (.cells #[.iface tt (.pointer (some ⟨gg,0,none⟩)),.int .i64 (x.deep:Int),sv,wv,.iface t2 (.pointer (some ⟨g2,0,none⟩)),.int .i64 (y.deep:Int),s2,v2] 96)):=(Below.refl _ _).alloc (Nat.le_refl _) _;have hql:=h.blk.lt;have s1:W1.heap.size≤wr.heap.size:=h.went.2.size;have s2':wr.heap.size≤Wd.heap.size:=h1.size;have s3:Wd.heap.size≤W8.heap.size:=hy.went.2.size;have hgl:=hb.lt;have hb3:=hb.grown hy.went.2 (by intro e;injection e;omega);have hb4:=hb3.below hWa hb3.lt;refine(pa_bin (t0:=⟨.iface tt (.pointer (some ⟨gg,0,none⟩)),x.deep,sv,wv⟩) (t1:=⟨.iface t2 (.pointer (some ⟨g2,0,none⟩)),y.deep,s2,v2⟩) hb4 (kids_two W8 ⟨.iface tt (.pointer (some ⟨gg,0,none⟩)),x.deep,sv,wv⟩ ⟨.iface t2 (.pointer (some ⟨g2,0,none⟩)),y.deep,s2,v2⟩) ⟨rfl,h.one.1,h.one.2⟩ hy.one hd ⟨_,_,rfl⟩ ⟨_,_,rfl⟩).mono ?_;rintro e W4 ⟨rfl,hbn,hg4⟩;have hq8:Blk W8 q 96 _:=(h.blk.grown h1 (by intro e;injection e;omega)).grown hy.went.2 (by intro e;injection e;omega);have hg84:W8.grownBy W4 (some gB):=grow_trans (grown_below hWa _) hg4;have s4:W8.heap.size≤W4.heap.size:=hg84.size;have hr4:wr.grownBy W4 (some p):=grown_off (grow_trans h1 hy.went.2) hg84 hgB;refine⟨rfl,hq8.grown hg84 (by intro e;injection e;omega),fun W5 h5 b5=>?_⟩;refine⟨⟨rfl,rfl⟩,b5,?_,⟨(hy.went.1.grow hg84 (by omega) (by omega)).grow h5 (by omega) (by omega),grown_offQ (grow_trans h.went.2 hr4) h5 (by intro r hr;injection hr;omega)⟩,(h.z.grown hr4 (by intro e;injection e;omega)).grown h5 (by intro e;injection e;omega),h.lo⟩;refine TT.bin _ (.iface tt (.pointer (some ⟨gg,0,none⟩))) (.iface t2 (.pointer (some ⟨g2,0,none⟩))) _ _ _ ⟨gB,_,_,⟨by omega,by omega⟩,hbn.grown h5 (by intro e;injection e;omega),fun _ h=>.binary gB (Nat.le_refl _) h.lt ⟨s.toArray⟩ tt t2 _ _ false false false (.slice none 0 0) (.slice none 0 0) [] [] 0 (strS_none _ _) (strS_none _ _) (h.cell 0) (h.cell 1) (h.cell 2) (h.cell 3) (h.cell 4) (h.cell 5) (h.cell 6) (h.cell 7) (h.cell 8)⟩ (h.tree.to fun r hr hlt=>⟨hr,(h5.block r (by omega) (by intro e;injection e;omega)).trans (hr4.block r hlt (by intro e;injection e;omega))⟩) (TT.to hy.tree fun r hr hlt=>⟨⟨by omega,by omega⟩,(h5.block r (by omega) (by intro e;injection e;omega)).trans (hg84.block r hlt (by intro e;injection e;omega))⟩)
def posOf (p:Nat) (W:World):Nat:=match W.cell? ⟨p,1,none⟩with
 |some (.int _ k)=>k.toNat
 |_=>0
theorem PS.pos {w0 W:World} {p en k o:Nat} {tv:Value} (h:PS w0 p tv en k o W):posOf p W=k:=by
 unfold posOf;rw[show W.cell? ⟨p,1,none⟩=some (.int .i64 (k:Int))from h.z.cell 1];simp
structure BR (p:Nat) (tv:Value) (w0:World) (en least:Nat) (ts:List Tok) (X Y:Nat→Th) (K O:Nat→Nat) (r:Nat):Prop where
 on:least≤(bindR (ts.drop (K r))).1∧(bindR (ts.drop (K r))).1≠0
 bare:bare (ts.drop (K r+1))=true
 sub: ∀W',PS w0 p tv en (K r+1) (O r) W'→Calls Tryz.prog 130 #[pV p,.int .i64 (((bindR (ts.drop (K r))).1:Int)+1)] W' (PPost w0 p tv en W' (Y r) (K (r+1)) (O (r+1)))
 mkz:mkB (bindR (ts.drop (K r))).2 (X r) (Y r)=some (X (r+1))
 lt:K r<K (r+1)∧K (r+1)≤ts.length
theorem bindR_le (ts:List Tok):(bindR ts).1≤5:=by
 unfold bindR
 repeat' split
 all_goals simp
theorem pa_binary {w0 W:World} {p en k o least R:Nat} {tv:Value} {ts:List Tok} {X Y:Nat→Th} {K O:Nat→Nat} (H:PH w0 p tv ts) (hs:PS w0 p tv en k o W) (hll:least≤100)
  (hq: ∀W',PS w0 p tv en k o W'→Calls Tryz.prog 183 #[pV p] W' (PPost w0 p tv en W' (X 0) (K 0) (O 0))) (hk0:K 0≤ts.length)
  (hr: ∀r,r<R→BR p tv w0 en least ts X Y K O r) (hend:(bindR (ts.drop (K R))).1<least∨(bindR (ts.drop (K R))).1=0):
  Calls Tryz.prog 130 #[pV p,.int .i64 (least:Int)] W (PPost w0 p tv en W (X R) (K R) (O R)):=by
 have hkl:=H.toks.len;have HKR:Hid (∀r,r≤R→K r≤ts.length):=Lib.hid fun r hrr=>by
  rcases Nat.eq_zero_or_pos r with rfl|hpos
  ·exact hk0
  ·have:=(hr (r-1) (by omega)).lt.2
   rwa [show r-1+1=r by omega]at this
 have HBI:Hid (∀W' r,r≤R→PS w0 p tv en (K r) (O r) W'→Calls Tryz.prog 184 #[pV p] W' fun e W2=>e= .returned (bindV (ts.drop (K r)))∧Below W'.heap.size W' W2):=Lib.hid fun W' r hrr hs'=>pa_binding hs' H.toks H.short (HKR.out r hrr)
 have HMO:Hid (∀W' bv r,r<R→PS w0 p tv en (K r+1) (O r) W'→Calls Tryz.prog 185 #[pV p,bv] W' fun e W2=>(∃r,e= .returned r)∧Below W'.heap.size W' W2):=Lib.hid fun W' bv r hrr hs'=>pa_mods bv hs' H.toks H.short (by have:=(hr r hrr).lt;omega) (hr r hrr).bare
 have HR:=Lib.hid hr;have HE:=Lib.hid hend;have HP:=Lib.hid H.hp;obtain⟨W1,hW1⟩: ∃W1,W1=W.alloc (.cells #[.nilIface,.int .i64 0,.pointer none,.pointer none] 96):=⟨_,rfl⟩;have hb1:Below W.heap.size W W1:=by rw[hW1];exact(Below.refl _ W).alloc (Nat.le_refl _) _
 have hz1:Blk W1 W.heap.size 96 zThing:=by rw[hW1];exact Blk.new _ _ _
 have HQ:=Lib.hid (hq W1 (hs.below hb1));have HW1:=Lib.hid hW1;have HB1:=Lib.hid hb1;have HZ1:=Lib.hid hz1;have hpl:=hs.z.lt;have HPL:Hid (p<W1.heap.size):=Lib.hid (Nat.lt_of_lt_of_le hpl hb1.size);clear hW1 hb1 hz1 hs hq hr hend H hk0;simp only[pV]at HQ HBI HMO ⊢
 go_enter Tryz.func130,Tryz.ntmps130;go_upto_region 1 with(fail)
 rw[←HW1.out];go_wp2_with fail;refine HQ.out.mono ?_;intro e W3 hpp;obtain⟨tt,gg,sv,wv,rfl,hall,hsv,hwv,hgot⟩:=hpp.conc;have HALL:=Lib.hid hall;have HG:=Lib.hid (And.intro hsv (And.intro hwv hgot));have hpx:p≠W.heap.size:=by omega
 clear hpp hall hsv hwv hgot;go_wp2_with (refine wpList_store_blk rfl 96 (.tmp 5) (.tmp 10) rfl W3.heap.size _ rfl rfl (Blk.new _ _ _) info_thing rfl HALL.out ?_);intro W4 hz4 hg4;have hb4:Below W3.heap.size W3 W4:=below_grow ((Below.refl W3.heap.size W3).alloc (Nat.le_refl _) _) hg4 (by simp) (Nat.le_refl _);have HBJ:Hid (BJ w0 W1 p W3.heap.size W.heap.size tv en (K 0) (O 0) (X 0) tt gg sv wv W4):=Lib.hid (by
  obtain⟨hsv,hwv,h1,h2,h3,h4,h5⟩:=HG.out;have hz2:=HZ1.out.grown h5.2 (by simpa using hpx.symm);exact⟨⟨hsv,hwv⟩,hz4,h4.to (fun r hr hlt=>⟨⟨hr,by omega⟩,hb4.block r hlt⟩),⟨h5.1.below hb4,grow_trans h5.2 (grown_below hb4 _)⟩,hz2.below hb4 hz2.lt,h5.2.size,HP.out,HPL.out,HZ1.out.lt,hpx⟩)
 clear hz4 hg4 hb4;go_wp2_with fail;go_loopw [6] (fun t6 W'=> ∃r:Nat,Hid (r≤R)∧Hid (∃tt gg sv wv,BJ w0 W1 p W3.heap.size W.heap.size tv en (K r) (O r) (X r) tt gg sv wv W')) (fun _ W'=>ts.length-posOf p W')
 case atStart=>exact⟨0,Lib.hid (Nat.zero_le _),Lib.hid ⟨tt,gg,sv,wv,HBJ.out⟩⟩
 case round=>
  obtain⟨r,hrR,hJ⟩:=hrel;obtain⟨tt,gg,sv,wv,hbj⟩:=hJ.out;have HBJ:=Lib.hid hbj;obtain⟨cur,hcur⟩: ∃cur,cur=ts.drop (K r):=⟨_,rfl⟩;have hBI:=HBI.out _ r hrR.out hbj.went.1;rw[←hcur]at hBI;obtain⟨L,hL⟩: ∃L,L=(bindR cur).1:=⟨_,rfl⟩;obtain⟨tx,htx⟩: ∃tx,tx=(bindR cur).2:=⟨_,rfl⟩;have hL5:L≤5:=by rw[hL];exact bindR_le cur
  simp only[bindV]at hBI;rw[←hL,←htx]at hBI;go_wp2_with fail;refine hBI.mono ?_;rintro e Wa ⟨rfl,hba⟩;have HBa:=Lib.hid (hbj.below hba);have HPOS:Hid (posOf p wr=K r):=Lib.hid hbj.went.1.pos;have HL:=Lib.hid (And.intro hcur (And.intro hL htx));have HSZA:Hid (wr.heap.size≤Wa.heap.size):=Lib.hid hba.size;clear hba hbj hJ hBI hcur hL htx;by_cases hrr:r<R
  ·have hbr:=HR.out r hrr;have hon:=hbr.on;rw[←HL.out.1,←HL.out.2.1]at hon;have p1:((L:Int)<(least:Int))=False:=eq_false (by omega);have p2:((L:Int)==0)=false:=by simp;omega
   have hsub:=hbr.sub;have hmk:=hbr.mkz;rw[←HL.out.1,←HL.out.2.1]at hsub;rw[←HL.out.1,←HL.out.2.2]at hmk;simp only[pV]at hsub;have HSUB:=Lib.hid hsub;have HMK:=Lib.hid hmk;have HLT:=Lib.hid hbr.lt;have HWR:Hid (IntKind.i64.wrap ((L:Int)+1)=(L:Int)+1):=Lib.hid (by rw[IntWalk.i64_left];exact IntWalk.wrap64_in _ (by omega));have hs4:=HBa.out.went.1;have hp2:p<wr.heap.size:=Nat.lt_of_lt_of_le HPL.out HBJ.out.went.2.size;have c1:Wa.cell? ⟨p,1,none⟩=some (.int .i64 (K r:Int)):=hs4.z.cell 1;have f1:=hs4.z.frozen 1;obtain⟨ha,hga⟩:=hs4.set1 (k':=K r+1) HP.out;rw[show ((K r+1:Nat):Int)=(K r:Int)+1 by omega]at ha hga;obtain⟨W5,hW5⟩: ∃W5,W5=Wa.setCell ⟨p,1,none⟩ (.int .i64 ((K r:Int)+1)):=⟨_,rfl⟩;have hpq:p≠W3.heap.size:=by have:=HBa.out.lo;omega
   have hz5:Blk W5 W3.heap.size 96 #[.iface tt (.pointer (some ⟨gg,0,none⟩)),.int .i64 ((X r).deep:Int),sv,wv]:=by rw[hW5];exact HBa.out.blk.far (p:=⟨p,1,none⟩) (by show W3.heap.size≠p;omega) _
   rw[←hW5]at ha hga;have hzb:=Blk.new W5 181 (binC ⟨tx.toArray⟩ .nilIface .nilIface);have hb56:Below W5.heap.size W5 (W5.alloc (.cells (binC ⟨tx.toArray⟩ .nilIface .nilIface) 181)):=(Below.refl _ _).alloc (Nat.le_refl _) _;have HZ5:=Lib.hid hz5;have HA:=Lib.hid ha;have HGA:=Lib.hid hga;have HZB:=Lib.hid hzb;have HB56:=Lib.hid hb56;have HW5:=Lib.hid hW5;have hkov:K r+1≤1099511627776:=by have:=HLT.out;omega
   clear hs4 ha hga hz5 hzb hb56 hW5 hsub hmk hbr hon;simp only[binC]at HZB HB56;go_upto_region 6 with(fail)
   rw[←HW5.out];go_wp2_with fail;refine(HMO.out _ _ r hrr (HA.out.below HB56.out)).mono ?_;rintro e W7 ⟨⟨rr,rfl⟩,hb7⟩;have hb57:=HB56.out.trans (hb7.mono HB56.out.size);have HS7:Hid (PS w0 p tv en (K r+1) (O r) W7.drew):=Lib.hid ((HA.out.below hb57).below (Below.refl _ _).drew);have hgr:Wa.grownBy W7.drew (some p):=grow_trans (grow_trans HGA.out (grown_below hb57 _)) (grown_below (Below.refl _ _).drew _);have HGR:=Lib.hid hgr;have hx7:=HZ5.out.below hb57 HZ5.out.lt;have HX7:=Lib.hid hx7.drew;have c0:W7.cell? ⟨W3.heap.size,0,none⟩=some (.iface tt (.pointer (some ⟨gg,0,none⟩))):=hx7.cell 0;have c2:W7.cell? ⟨W3.heap.size,1,none⟩=some (.int .i64 ((X r).deep:Int)):=hx7.cell 1;have c3:W7.cell? ⟨W3.heap.size,2,none⟩=some sv:=hx7.cell 2;have c4:W7.cell? ⟨W3.heap.size,3,none⟩=some wv:=hx7.cell 3;have HB7:Hid (Blk W7.drew W5.heap.size 181 #[.string ⟨tx.toArray⟩,.nilIface,.nilIface,.bool false,.bool false,.bool false,.slice none 0 0,.int .i64 0,.slice none 0 0]):=Lib.hid (HZB.out.below hb7 HZB.out.lt).drew;have HL5:Hid (Wa.heap.size≤W5.heap.size):=Lib.hid HGA.out.size;clear hb7 hb57 hgr hx7;go_wp2_with fail;go_region_with (first|(go_at_call 130;(try rw[HWR.out]);(with_reducible refine(HSUB.out _ HS7.out).mono ?_);intro e W8 hpp;obtain⟨t2,g2,s2,v2,rfl,hall2,hs2,hv2,hgot⟩:=hpp.conc;have HG2:=Lib.hid hgot;have hx8:=HX7.out.grown hgot.went.2 (by intro e;injection e;omega);have q0:W8.cell? ⟨W3.heap.size,0,none⟩=some (.iface tt (.pointer (some ⟨gg,0,none⟩))):=hx8.cell 0;have q1:W8.cell? ⟨W3.heap.size,1,none⟩=some (.int .i64 ((X r).deep:Int)):=hx8.cell 1;have q2:W8.cell? ⟨W3.heap.size,2,none⟩=some sv:=hx8.cell 2;have q3:W8.cell? ⟨W3.heap.size,3,none⟩=some wv:=hx8.cell 3;clear hpp hgot hx8 hall2 hs2 hv2)|(go_at_call 102;(with_reducible refine(bj_node HBa.out HL5.out HGR.out HB7.out HG2.out HMK.out).mono ?_);rintro e W9 ⟨rfl,hq9,hfin⟩;have HQ9:=Lib.hid hq9;have HFIN:=Lib.hid hfin;have z0:W9.cell? ⟨W3.heap.size,0,none⟩=some (.iface tt (.pointer (some ⟨gg,0,none⟩))):=hq9.cell 0;have z1:W9.cell? ⟨W3.heap.size,1,none⟩=some (.int .i64 ((X r).deep:Int)):=hq9.cell 1;have z2:W9.cell? ⟨W3.heap.size,2,none⟩=some sv:=hq9.cell 2;have z3:W9.cell? ⟨W3.heap.size,3,none⟩=some wv:=hq9.cell 3;have f0:=hq9.frozen 0;have f2:=hq9.frozen 1;have f3:=hq9.frozen 2;have f4:=hq9.frozen 3;clear hq9 hfin))
   all_goals
    have HJ:=Lib.hid (HFIN.out _ (set4t HQ9.out _ _ _ _).2 (set4t HQ9.out _ _ _ _).1);have HPOS2:=Lib.hid HJ.out.went.1.pos;clear z0 z1 z2 z3 f0 f2 f3 f4 c0 c1 c2 c3 c4 f1;go_wp2_with fail;go_roundw
    case rel=>exact⟨r+1,Lib.hid hrr,Lib.hid ⟨_,_,_,_,HJ.out⟩⟩
    case measure=>
     show ts.length-posOf p _<ts.length-posOf p _;rw[HPOS.out,HPOS2.out];have:=HLT.out;omega
  ·have hrR2:r=R:=by have:=hrR.out;omega
   subst hrR2;have hend:=HE.out;rw[←HL.out.1,←HL.out.2.1]at hend;have HZX:=Lib.hid HBa.out.blk;have HZT6:=Lib.hid HBa.out.z;have HALL2:Hid ((#[.iface tt (.pointer (some ⟨gg,0,none⟩)),.int .i64 ((X r).deep:Int),sv,wv]:Array Value).toList.all (·.oneCell')=true):=Lib.hid (TV.all (t:=⟨.iface tt (.pointer (some ⟨gg,0,none⟩)),(X r).deep,sv,wv⟩) ⟨rfl,HBa.out.one.1,HBa.out.one.2⟩);have HF:Hid (∀W7,Wa.grownBy W7 (some W.heap.size)→PPost w0 p tv en W (X r) (K r) (O r) (.returned (.agg #[.iface tt (.pointer (some ⟨gg,0,none⟩)),.int .i64 ((X r).deep:Int),sv,wv])) W7):=Lib.hid (fun W7 hg7=>by
    have h:=HBa.out;have hl:=HZ1.out.lt;refine⟨⟨.iface tt (.pointer (some ⟨gg,0,none⟩)),(X r).deep,sv,wv⟩,rfl,⟨rfl,h.one.1,h.one.2⟩,⟨_,_,rfl⟩,rfl,h.tree.to (fun r hr hlt=>⟨by omega,hg7.block r hlt (by intro e;injection e;omega)⟩),h.went.1.grow hg7 hpx (by have:=HP.out;omega),?_⟩;exact node_grown2 (grow_trans (grown_below HB1.out _) h.went.2) hg7)
   have hcases:((L:Int)<(least:Int))=True∨(((L:Int)<(least:Int))=False∧((L:Int)==0)=true):=by
    by_cases hlt:(L:Int)<(least:Int)
    ·exact .inl (eq_true hlt)
    ·exact .inr ⟨eq_false hlt,by simp;omega⟩
   clear hend;rcases hcases with p1|⟨p1,p2⟩
   all_goals
    go_wp2_with (first|(refine wpList_load_blk rfl 96 (.tmp 5) rfl W3.heap.size rfl HZX.out Tryz.underlying96 info_thing ?_)|(refine wpList_store_blk rfl 96 (.tmp 4) (.tmp 23) rfl W.heap.size _ rfl rfl HZT6.out info_thing rfl HALL2.out ?_;intro W7 hz7 hg7;have HZ7:=Lib.hid hz7;have HG7:=Lib.hid hg7;clear hz7 hg7));exact bodyPost_ret (results_blk Tryz.results130 rfl HZ7.out Tryz.underlying96 info_thing) rfl (HF.out _ HG7.out)
theorem pa_query {w0 W:World} {p en k o k1 o1:Nat} {tv:Value} {x:Th} (hp:w0.heap.size≤p) (hs:PS w0 p tv en k o W)
  (hq: ∀W',PS w0 p tv en k o W'→Calls Tryz.prog 130 #[pV p,.int .i64 1] W' (PPost w0 p tv en W' x k1 o1)):
  Calls Tryz.prog 79 #[pV p] W (PPost w0 p tv en W x k1 o1):=by
 obtain⟨W1,hW1⟩: ∃W1,W1=W.alloc (.cells #[.nilIface,.int .i64 0,.pointer none,.pointer none] 96):=⟨_,rfl⟩;have hb1:Below W.heap.size W W1:=by rw[hW1];exact(Below.refl _ W).alloc (Nat.le_refl _) _
 have hz1:Blk W1 W.heap.size 96 zThing:=by rw[hW1];exact Blk.new _ _ _
 have HQ:=Lib.hid (hq W1 (hs.below hb1));have HP:=Lib.hid hp;have HW1:=Lib.hid hW1;have HB1:=Lib.hid hb1;have HZ1:=Lib.hid hz1;have hpl:=hs.z.lt;have hpx:p≠W.heap.size:=by omega
 clear hW1 hb1 hz1 hs hq;simp only[pV]at HQ ⊢
 go_enter Tryz.func79,Tryz.ntmps79;go_upto_region 1 with(fail)
 rw[←HW1.out];go_wp2_with fail;refine HQ.out.mono ?_;intro e W2 hpp;obtain⟨tt,gg,sv,wv,rfl,hall,hsv,hwv,hgot⟩:=hpp.conc;have HALL:=Lib.hid hall;have HG:=Lib.hid hgot;have HL1:Hid (W.heap.size<W1.heap.size):=Lib.hid HZ1.out.lt;have HZT2:Hid (Blk W2 W.heap.size 96 zThing):=Lib.hid (HZ1.out.grown hgot.went.2 (by simpa using hpx.symm));clear hgot hpp hall hsv hwv;go_wp2_with (refine wpList_store_blk rfl 96 (.tmp 2) (.tmp 4) rfl W.heap.size _ rfl rfl HZT2.out info_thing rfl HALL.out ?_);intro W7 hz7 hg7;have HZ7:=Lib.hid hz7;have HF:Hid (PPost w0 p tv en W x k1 o1 (.returned (.agg #[.iface tt (.pointer (some ⟨gg,0,none⟩)),.int .i64 (x.deep:Int),sv,wv])) W7):=Lib.hid (by
  obtain⟨h1,h2,h3,h4,h5⟩:=HG.out;refine⟨_,rfl,h1,h2,h3,?_,h5.1.grow hg7 (by omega) (by have:=HP.out;omega),?_⟩
  ·exact(h4.agree (agree_grown hg7 HL1.out)).lo (Nat.le_of_lt HL1.out)
  ·exact node_grown2 (grow_trans (grown_below HB1.out _) h5.2) hg7)
 clear hz7 hg7;go_wp2_with fail;exact bodyPost_ret (results_blk Tryz.results79 rfl HZ7.out Tryz.underlying96 info_thing) rfl HF.out
theorem una_unroll: ∀(n:Nat) (ts:List Tok) (o:Nat) (z:Th) (r:List Tok) (o':Nat),pars n .una ts o=some (z,r,o')→
  ∃(m n':Nat) (Z:Nat→Th),n'<n∧(∀j,j<m→sgn (ts.drop j)=true)∧sgn (ts.drop m)=false∧pars n' .pow (ts.drop m) o=some (Z m,r,o')∧(∀j,j<m→mkU (tx0 (ts.drop j)) (Z (j+1))=some (Z j))∧Z 0=z:=by
 intro n;induction n with
 |zero=>intro ts o z r o' h;simp[pars]at h
 |succ n ih=>
  intro ts o z r o' h;simp only[pars]at h;split at h
  ·rename_i hs;have hsg:sgn ts=true:=by simp[sgn,hs]
   split at h
   ·cases h
   ·rename_i x ts1 o1 h1;split at h
    ·cases h
    ·rename_i z1 hz1;injection h with h;injection h with ha hb;injection hb with hb hc
     subst ha hb hc;obtain⟨m,n',Z,a1,a2,a3,a4,a5,a6⟩:=ih _ _ _ _ _ h1;refine⟨m+1,n',fun j=>match j with|0=>z1|i+1=>Z i,by omega,?_,?_,?_,?_,rfl⟩
     ·intro j hj;cases j with
      |zero=>exact hsg
      |succ i=>have:=a2 i (by omega);rwa [List.drop_drop,Nat.add_comm]at this
     ·rwa [List.drop_drop,Nat.add_comm]at a3
     ·rwa [List.drop_drop,Nat.add_comm]at a4
     ·intro j hj;cases j with
      |zero=>simpa [a6]using hz1
      |succ i=>have:=a5 i (by omega);rwa [List.drop_drop,Nat.add_comm 1 i]at this
  ·rename_i hs;refine⟨0,n,fun _=>z,Nat.lt_succ_self _,fun j hj=>absurd hj (Nat.not_lt_zero _),?_,h,fun j hj=>absurd hj (Nat.not_lt_zero _),rfl⟩;simp only[not_or,Bool.not_eq_true]at hs;simp[sgn,hs]
theorem loop_unroll: ∀(n least:Nat) (x:Th) (ts:List Tok) (o:Nat) (z:Th) (r:List Tok) (o':Nat),pars n (.loop least x) ts o=some (z,r,o')→o≤300→
  ∃(R:Nat) (X Y:Nat→Th) (K O:Nat→Nat),X 0=x∧K 0=0∧O 0=o∧X R=z∧r=ts.drop (K R)∧O R=o'∧K R≤ts.length∧
   (∀i,i<R→least≤(bindR (ts.drop (K i))).1∧(bindR (ts.drop (K i))).1≠0∧bare (ts.drop (K i+1))=true∧K i<K (i+1)∧K (i+1)≤ts.length∧O i≤300∧mkB (bindR (ts.drop (K i))).2 (X i) (Y i)=some (X (i+1))∧
    ∃n',n'<n∧pars n' (.bin ((bindR (ts.drop (K i))).1+1)) (ts.drop (K i+1)) (O i)=some (Y i,ts.drop (K (i+1)),O (i+1)))∧
   ((bindR (ts.drop (K R))).1<least∨(bindR (ts.drop (K R))).1=0):=by
 intro n;induction n with
 |zero=>intro least x ts o z r o' h;simp[pars]at h
 |succ n ih=>
  intro least x ts o z r o' h ho;simp only[pars]at h;split at h
  ·rename_i hb;injection h with h;injection h with ha hbb;injection hbb with hbb hc
   subst ha hbb hc;exact⟨0,fun _=>x,fun _=>x,fun _=>0,fun _=>o,rfl,rfl,rfl,rfl,rfl,rfl,Nat.zero_le _,fun i hi=>absurd hi (Nat.not_lt_zero _),hb⟩
  ·rename_i hb;have hb2:least≤(bindR ts).1∧(bindR ts).1≠0:=by omega
   split at h
   ·cases h
   ·rename_i hbare;split at h
    ·cases h
    ·rename_i y ts2 o2 h1;split at h
     ·cases h
     ·rename_i z1 hz1;have hne:ts≠[]:=by rintro rfl;exact hb2.2 rfl
      obtain⟨⟨j,hj,rfl⟩,ho2⟩:=pars_rest _ _ _ _ _ _ _ h1 ho;have hl:0<ts.length:=List.length_pos_iff.2 hne;rw[List.length_drop]at hj;rw[List.drop_drop]at h h1;obtain⟨R,X,Y,K,O,b1,b2,b3,b4,b5,b6,b7,b8,b9⟩:=ih _ _ _ _ _ _ _ h ho2;rw[List.length_drop]at b7;refine⟨R+1,fun i=>match i with|0=>x|i+1=>X i,fun i=>match i with|0=>y|i+1=>Y i,fun i=>match i with|0=>0|i+1=>1+j+K i,fun i=>match i with|0=>o|i+1=>O i,rfl,rfl,rfl,b4,by rw[b5,List.drop_drop],b6,by show 1+j+K R≤ts.length;omega,?_,by simpa [List.drop_drop]using b9⟩;intro i hi;cases i with
      |zero=>
       refine⟨hb2.1,hb2.2,by simpa using hbare,by show 0<1+j+K 0;omega,by show 1+j+K 0≤ts.length;omega,ho,by show mkB _ x y=some (X 0);rw[b1];exact hz1,n,Nat.lt_succ_self _,?_⟩;show pars n _ (ts.drop (0+1)) o=some (y,ts.drop (1+j+K 0),O 0);rw[b2,b3];exact h1
      |succ i=>
       obtain⟨c1,c2,c3,c4,c5,c6,c7,n',c8,c9⟩:=b8 i (by omega);rw[List.drop_drop]at c1 c2 c3 c7 c9;rw[List.drop_drop,List.drop_drop]at c9;rw[List.length_drop]at c5;exact⟨c1,c2,by rw[Nat.add_assoc];exact c3,by show 1+j+K i<1+j+K (i+1);omega,by show 1+j+K (i+1)≤ts.length;omega,c6,c7,n',by omega,by show pars n' _ (ts.drop (1+j+K i+1)) (O i)=some (Y i,ts.drop (1+j+K (i+1)),O (i+1));rw[Nat.add_assoc (1+j)];exact c9⟩
end Go.Proofs.YtibcjfjacielbaaGreatDoor
