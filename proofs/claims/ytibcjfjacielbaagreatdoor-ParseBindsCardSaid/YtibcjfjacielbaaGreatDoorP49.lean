import Derived.Test.YtibcjfjacielbaaGreatDoorP34
import Derived.Test.YtibcjfjacielbaaGreatDoorP48
/- Part of the proof of YtibcjfjacielbaaGreatDoorCardP: PaY PaZ PbC PbD. -/
set_option maxRecDepth 100000
set_option maxHeartbeats 4000000
set_option linter.unusedVariables false
set_option linter.unusedSimpArgs false
namespace Go.Proofs.YtibcjfjacielbaaGreatDoor
structure Reads (l:List UInt8) (rs:List PR):Prop where
 it: ∃ts x o',scanAll l=(ts,none)∧Short ts∧pars 60 (.bin 1) ts 0=some (x,[],o')∧x.deep≤128∧x.rows=rs
theorem readN_reads {l:List UInt8} {p:List Tok×List PR} (h:readN l=some p):Reads l p.2∧ ∀r∈p.2,Lean4 r:=by
 unfold readN at h;split at h
 ·rename_i ts hs;split at h
  ·rename_i x o' hp;split at h
   ·rename_i hd;injection h with h
    subst h;refine⟨⟨ts,x,o',hs,fun t ht=>?_,hp,hd.1,rfl⟩,pars_fine _ _ _ _ _ _ _ hp trivial⟩;have:=of_decide_eq_true (List.all_eq_true.1 hd.2 t ht);omega
   ·cases h
  ·cases h
 ·cases h
theorem bind_reads {i j:Nat} (hi:i<15) (hj:j<15) (neg:Bool): ∃rs,Reads (flatL i j neg) rs∧Reads (brackL i j neg) rs∧(5≤rs.length∧rs.length≤100)∧ ∀r∈rs,Lean4 r:=by
 have h:=bind_all hi hj neg;unfold bindOk rowsN at h;simp only[Bool.and_eq_true,decide_eq_true_eq,Option.isSome_iff_exists]at h;obtain⟨⟨⟨⟨p,hp⟩,⟨q,hq⟩⟩,he⟩,hl⟩:=h;rw[hp,hq]at he;rw[hp]at hl;obtain⟨a1,a2⟩:=readN_reads hp;obtain⟨b1,b2⟩:=readN_reads hq;have:=four_inj p.2 q.2 a2 b2 he;rw[←this]at b1;exact⟨p.2,a1,b1,by simpa using hl,a2⟩
end Go.Proofs.YtibcjfjacielbaaGreatDoor
set_option linter.unusedVariables false
set_option linter.unusedSimpArgs false
namespace Go.Proofs.YtibcjfjacielbaaGreatDoor
open Go.RowKit
theorem reads_parse {W:World} {l:List UInt8} {rs:List PR} {T:Nat→World→Prop} (h:Reads l rs) (hT:NumT (fun _=>True) T) (hTw:T W.heap.size W) (hl:l.length≤1000):
  Calls Tryz.prog 44 #[.string ⟨l.toArray⟩] W fun e w'=> ∃x,x.rows=rs∧ReadPost W x e w':=by
 obtain⟨ts,x,o',h1,h2,h3,h4,h5⟩:=h.it;have hn:ts.length≤1099511627776:=by
  have:=scanAll_len l;rw[h1]at this;simp only at this;omega
 refine(parse_ok hT (fun W' hb=>hT.mono (hT.keep hTw hb) hb.size) (by simp[ByteArray.size];omega) (by simpa using h1) h2 hn h3 h4).mono fun e w' h=>⟨x,h5,h⟩
theorem ReadPost.root {W w':World} {x:Th} {e:Ending} (h:ReadPost W x e w'): ∃tt g L,e= .returned (.tuple #[.agg #[.iface tt (.pointer (some ⟨g,0,none⟩))],.int .i64 0,.int .i64 0])∧RootAt W.heap.size w' (.iface tt (.pointer (some ⟨g,0,none⟩))) L∧L.map (·.2)=x.rows∧Below W.heap.size W w':=by
 obtain⟨v,⟨tt,g,rfl⟩,rfl,hta,hb⟩:=h;obtain⟨L,h1,h2⟩:=TT.tree hta (fun _ h=>h) 1;exact⟨tt,g,L,rfl,.inr h1,h2,hb⟩
theorem lean4_len {r:PR} (h:Lean4 r):LenOK r:=by
 rw[h];simp[LenOK,zr]
def awakeL:List UInt8:=[49,32,43,32,97]
theorem awake_rows:((readN awakeL).isSome&&decide (rowsN awakeL=[(7,2,[43],[]),(1,0,[],[49]),(3,0,[],[97])]))=true:=by decide+kernel
theorem bytes_of {s:ByteArray} {l:List UInt8} (h:s.data.toList=l):s=⟨l.toArray⟩:=by rw[←h]
theorem awake_reads: ∃r0 r1 r2:PR,Reads awakeL [r0,r1,r2]∧(∀r∈[r0,r1,r2],LenOK r)∧r0.op=⟨#[43]⟩∧r1.text=⟨#[49]⟩∧r2.text=⟨#[97]⟩:=by
 have h:=awake_rows;simp only[Bool.and_eq_true,decide_eq_true_eq,Option.isSome_iff_exists]at h;obtain⟨⟨p,hp⟩,hr⟩:=h;obtain⟨h1,h2⟩:=readN_reads hp;have h3:p.2.map four=[(7,2,[43],[]),(1,0,[],[49]),(3,0,[],[97])]:=by rw[←hr,rowsN,hp];rfl
 obtain⟨ts,rs⟩:=p;simp only at h1 h2 h3;rcases rs with _|⟨r0,_|⟨r1,_|⟨r2,_|⟨r3,rs⟩⟩⟩⟩<;>simp only[List.map_cons,List.map_nil,List.cons.injEq,four,Prod.mk.injEq,reduceCtorEq,and_false,and_true]at h3
 exact⟨r0,r1,r2,h1,fun r hr=>lean4_len (h2 r hr),bytes_of h3.1.2.2.1,bytes_of h3.2.1.2.2.2,bytes_of h3.2.2.2.2.2⟩
def ParseTo (W:World) (rs:List PR) (e:Ending) (w':World):Prop:= ∃tt g L,e= .returned (.tuple #[.agg #[.iface tt (.pointer (some ⟨g,0,none⟩))],.int .i64 0,.int .i64 0])∧RootAt W.heap.size w' (.iface tt (.pointer (some ⟨g,0,none⟩))) L∧L.map (·.2)=rs∧Below W.heap.size W w'
theorem reads_parseS {W:World} {S:ByteArray} {l:List UInt8} {rs:List PR} {T:Nat→World→Prop} (h:Reads l rs) (hS:S.data.toList=l) (hT:NumT (fun _=>True) T) (hTw:T W.heap.size W) (hl:l.length≤1000):
  Calls Tryz.prog 44 #[.string S] W (ParseTo W rs):=by
 rw[bytes_of hS];refine(reads_parse h hT hTw hl).mono fun e w' h=>?_
 obtain⟨x,hx,hp⟩:=h;obtain⟨tt,g,L,h1,h2,h3,h4⟩:=hp.root;exact⟨tt,g,L,h1,h2,by rw[h3,hx],h4⟩
theorem rows_three {W W':World} {r0 r1 r2:PR} {e:Ending} (h:RowsTo W [r0,r1,r2] e W') (h0:r0.op=⟨#[43]⟩∧r1.text=⟨#[49]⟩∧r2.text=⟨#[97]⟩): ∃g o c,e= .returned (.slice (some ⟨g,o,none⟩) 3 c)∧W'.cell? ⟨g,o+2,none⟩=some (.string ⟨#[43]⟩)∧W'.cell? ⟨g,o+17+3,none⟩=some (.string ⟨#[49]⟩)∧W'.cell? ⟨g,o+34+3,none⟩=some (.string ⟨#[97]⟩)∧Below W.heap.size W W':=by
 obtain⟨ao,n,c,rfl,⟨ao',c',hv,hc⟩,hb⟩:=h;injection hv with e1 e2 e3
 subst e1 e2 e3;obtain⟨g,o,rfl,_,_,_,_,_,_,_,y0⟩:=hc 0 (by simp);obtain⟨_,_,e,_,_,_,_,_,_,_,y1⟩:=hc 1 (by simp);cases e;obtain⟨_,_,e,_,_,_,_,_,_,_,y2⟩:=hc 2 (by simp);cases e;exact⟨g,o,c,rfl,(y0 2 (by decide)).trans (by rw[←h0.1];rfl),(y1 3 (by decide)).trans (by rw[←h0.2.1];rfl),(y2 3 (by decide)).trans (by rw[←h0.2.2];rfl),hb⟩
theorem law13_awake {T:Nat→World→Prop} (hT:NumT (fun _=>True) T) (w:World) (hTw:T w.heap.size w):Calls Tryz.prog 41 #[] w (BoolPost w true):=by
 obtain⟨r0,r1,r2,hr,hl,h0,h1,h2⟩:=awake_reads;have HP:=Lib.hid (reads_parseS (W:=w) (S:=⟨#[49,32,43,32,97]⟩) hr rfl hT hTw (by decide));have HR:Hid (∀b W v L,RootAt b W v L→L.map (·.2)=[r0,r1,r2]→Calls Tryz.prog 29 #[.agg #[v]] W (RowsTo W [r0,r1,r2])):=Lib.hid fun b W v L hx hL=>
  (tree_Rows hx (by have:=congrArg List.length hL;simp at this;omega) fun x hx=>hl _ (by rw[←hL];exact List.mem_map.2 ⟨x,hx,rfl⟩)).mono fun e W' h=>by rw[←hL];exact h.rowsS
 have H0:=Lib.hid (And.intro h0 (And.intro h1 h2));clear hTw hr hl h0 h1 h2;go_enter Tryz.func41,Tryz.ntmps41;go_wp2_with fail;refine HP.out.mono ?_;rintro e w1 ⟨tt,g,L,rfl,hx,hL,hb⟩;have hb2:=hb.alloc hb.size (.cells #[.iface tt (.pointer (some ⟨g,0,none⟩))] 26);have k2:=Blk.new w1 26 #[.iface tt (.pointer (some ⟨g,0,none⟩))];have hx2:=hx.below ((Below.refl _ w1).alloc (Nat.le_refl _) (.cells #[.iface tt (.pointer (some ⟨g,0,none⟩))] 26));obtain⟨W3,hW3⟩: ∃W3,W3=w1.alloc (.cells #[.iface tt (.pointer (some ⟨g,0,none⟩))] 26):=⟨_,rfl⟩;rw[←hW3]at hb2 k2 hx2;have HW3:=Lib.hid hW3;have HB2:=Lib.hid hb2;have c0:=k2.cell 0;simp at c0;have HRW:=Lib.hid (HR.out _ W3 _ L hx2 hL);clear hx hL hb hb2 k2 hx2 hW3;go_upto_region 2 with(fail)
 rw[←HW3.out];go_wp2_with (go_at_call 29;(with_reducible refine HRW.out.mono ?_);intro e W4 h4;obtain⟨ga,oa,c,rfl,d0,d1,d2,hb4⟩:=rows_three h4 H0.out;have HB4:=Lib.hid (HB2.out.trans (hb4.mono HB2.out.size));clear h4 hb4);go_ret;exact⟨rfl,HB4.out⟩
structure OpsAt (w:World):Prop where
 cell: ∀i,i<15→w.cell? ⟨0,i,none⟩=some (.string ⟨(opAt i).toArray⟩)
 lt:0<w.heap.size
theorem place_lt (x:Int): ∃i:Nat,placeN x 15=(i:Int)∧i<15:=by
 unfold placeN;have h:0≤(if x<0 then-(x+1)else x):=by split<;>omega
 have h1:=Int.tmod_nonneg 15 h;have h2:=Int.tmod_lt_of_pos (if x<0 then-(x+1)else x) (show (0:Int)<15 by decide);exact⟨((if x<0 then-(x+1)else x).tmod 15).toNat,by omega,by omega⟩
theorem level_lvl (i:Nat):levelN (i:Int)=(lvl i:Int):=by
 unfold levelN lvl
 repeat' split
 all_goals first|rfl|omega
theorem lvl_le (i:Nat):lvl i≤6:=by
 unfold lvl
 repeat' split
 all_goals omega
theorem lvl_six (a:Nat):(a=6∧((a:Int) != 6)=false)∨(a≠6∧((a:Int) != 6)=true):=by
 by_cases h:a=6
 ·exact .inl ⟨h,by rw[h];rfl⟩
 ·exact .inr ⟨h,bne_iff_ne.2 (by omega)⟩
theorem lvl_six' (a:Nat):(a=6∧((a:Int)==6)=true)∨(a≠6∧((a:Int)==6)=false):=by
 by_cases h:a=6
 ·exact .inl ⟨h,by rw[h];rfl⟩
 ·exact .inr ⟨h,beq_eq_false_iff_ne.2 (by omega)⟩
theorem opAt_len {i:Nat} (hi:i<15):(opAt i).length≤6:=by
 have: ∀i:Fin 15,(opAt i).length≤6:=by decide
 exact this ⟨i,hi⟩
theorem texts_len (i j:Nat) (hi:i<15) (hj:j<15) (neg:Bool):(flatL i j neg).length≤1000∧(brackL i j neg).length≤1000:=by
 have h1:=opAt_len hi;have h2:=opAt_len hj;have h3:(midL neg).length≤4:=by cases neg<;>decide
 unfold flatL brackL;split<;>simp only[List.length_append,List.length_cons,List.length_nil]<;>omega
theorem sums_ok {a b c:Nat} (ha:a≤6) (hb:b≤6) (hc:c≤4):(∀n:Nat,n≤1000→(9223372036854775807<n)=False)∧2+a≤1000∧2+a+1≤1000∧2+a+1+c≤1000∧2+a+1+c+1≤1000∧2+a+1+c+1+b≤1000∧2+a+1+c+1+b+1≤1000∧2+a+1+c+1+b+1+3≤1000∧2+a+2≤1000∧2+a+2+c≤1000∧2+a+2+c+1≤1000∧2+a+2+c+1+b≤1000∧2+a+2+c+1+b+1≤1000∧2+a+2+c+1+b+1+3≤1000∧2+a+2+c+1+b+1+3+1≤1000∧3+a≤1000∧3+a+1≤1000∧3+a+1+c≤1000∧3+a+1+c+2≤1000∧3+a+1+c+2+b≤1000∧3+a+1+c+2+b+1≤1000∧3+a+1+c+2+b+1+3≤1000:=by
 refine⟨fun n h=>eq_false (by omega),?_⟩;omega
def midB (neg:Bool):ByteArray:=if neg=true then⟨#[45]⟩++⟨#[50,46,53]⟩else⟨#[50,46,53]⟩
theorem midB_data (neg:Bool):(midB neg).data.toList=midL neg:=by cases neg<;>simp[midB,midL]
theorem midB_size (neg:Bool):(midB neg).size≤4:=by cases neg<;>decide
def BoxI (w:World) (p:Nat) (v:Value) (L:List (Nat×PR)) (W:World):Prop:=Below w.heap.size w W∧Blk W p 26 #[v]∧ ∃b,RootAt b W v L
theorem BoxI.below {w W W':World} {p:Nat} {v:Value} {L:List (Nat×PR)} (h:BoxI w p v L W) (hb:Below W.heap.size W W'):BoxI w p v L W':=⟨h.1.trans (hb.mono h.1.size),h.2.1.below hb h.2.1.lt,h.2.2.imp fun _ k=>k.below hb⟩
theorem BoxI.new {w W:World} {b:Nat} {v:Value} {L:List (Nat×PR)} (h:RootAt b W v L) (hb:Below w.heap.size w W):BoxI w W.heap.size v L (W.alloc (.cells #[v] 26)):=
 ⟨hb.alloc hb.size _,Blk.new _ _ _,b,h.below ((Below.refl _ W).alloc (Nat.le_refl _) _)⟩
theorem box_late {w W Wp:World} {v:Value} {L:List (Nat×PR)} (h1:Below w.heap.size w W) (hr:RootAt (W.alloc (.cells #[.nilIface] 26)).drew.heap.size Wp v L) (hb:Below (W.alloc (.cells #[.nilIface] 26)).drew.heap.size (W.alloc (.cells #[.nilIface] 26)).drew Wp):
  Wp.cell? ⟨W.heap.size,0,none⟩=some .nilIface∧Wp.frozen? ⟨W.heap.size,0,none⟩=false∧BoxI w W.heap.size v L (Wp.setCell ⟨W.heap.size,0,none⟩ v)∧Below w.heap.size w Wp:=by
 have hz:Blk (W.alloc (.cells #[.nilIface] 26)).drew W.heap.size 26 #[.nilIface]:=Blk.new W _ _;have hz2:=hz.below hb hz.lt;have hbw:Below w.heap.size w Wp:=((h1.alloc h1.size _).drew).trans (hb.mono ((h1.alloc h1.size _).drew).size);refine⟨hz2.cell 0,hz2.frozen 0,⟨hbw.setCell (p:=⟨W.heap.size,0,none⟩) h1.size _,?_,(W.alloc (.cells #[.nilIface] 26)).drew.heap.size,?_⟩,hbw⟩
 ·have:=hz2.set_ 0 v;simpa using this
 ·refine hr.elim .inl fun h=>.inr (h.agree ⟨by simp,fun k h1 _=>?_⟩)
  simp at h1;exact heap_setCell_other _ _ _ _ (by simp;omega)
set_option maxHeartbeats 8000000 in
theorem law_ParseBinds {T:Nat→World→Prop} (hT:NumT (fun _=>True) T) (w:World) (x y:Int) (neg:Bool) (hx: -9223372036854775808≤x∧x≤9223372036854775807) (hy: -9223372036854775808≤y∧y≤9223372036854775807) (ho:OpsAt w) (hTw:T w.heap.size w):
  Calls Tryz.prog 13 #[.int .i64 x,.int .i64 y,.bool neg] w (BoolPost w true):=by
 have HAW:=Lib.hid (law13_awake hT w hTw);obtain⟨i,ei,hi⟩:=place_lt x;obtain⟨j,ej,hj⟩:=place_lt y;have HPX:Hid (∀W,Calls Tryz.prog 47 #[.int .i64 x,.int .i64 15] W fun e w'=>e= .returned (.int .i64 (i:Int))∧W=w'):=Lib.hid fun W=>by rw[←ei];exact law_place W x hx.1 hx.2
 have HPY:Hid (∀W,Calls Tryz.prog 47 #[.int .i64 y,.int .i64 15] W fun e w'=>e= .returned (.int .i64 (j:Int))∧W=w'):=Lib.hid fun W=>by rw[←ej];exact law_place W y hy.1 hy.2
 obtain⟨la,hla⟩: ∃la,la=lvl i:=⟨_,rfl⟩;obtain⟨lb,hlb⟩: ∃lb,lb=lvl j:=⟨_,rfl⟩;have HLI:Hid (∀W,Calls Tryz.prog 48 #[.int .i64 (i:Int)] W fun e w'=>e= .returned (.int .i64 (la:Int))∧W=w'):=Lib.hid fun W=>by rw[hla,←level_lvl];exact law_level W _
 have HLJ:Hid (∀W,Calls Tryz.prog 48 #[.int .i64 (j:Int)] W fun e w'=>e= .returned (.int .i64 (lb:Int))∧W=w'):=Lib.hid fun W=>by rw[hlb,←level_lvl];exact law_level W _
 obtain⟨rs,hr1,hr2,hr5,hr4⟩:=bind_reads hi hj neg;have hlen:=texts_len i j hi hj neg;have hrl: ∀r∈rs,LenOK r:=fun r hr=>lean4_len (hr4 r hr)
 have HTK:Hid (∀W,Below w.heap.size w W→T W.heap.size W):=Lib.hid fun W hb=>hT.mono (hT.keep hTw hb) hb.size
 have HP1:Hid (∀W (S:ByteArray),Below w.heap.size w W→S.data.toList=flatL i j neg→Calls Tryz.prog 44 #[.string S] W (ParseTo W rs)):=Lib.hid fun W S hb hS=>reads_parseS (W:=W) hr1 hS hT (HTK.out W hb) hlen.1
 have HP2:Hid (∀W (S:ByteArray),Below w.heap.size w W→S.data.toList=brackL i j neg→Calls Tryz.prog 44 #[.string S] W (ParseTo W rs)):=Lib.hid fun W S hb hS=>reads_parseS (W:=W) hr2 hS hT (HTK.out W hb) hlen.2
 have HSM:Hid (∀W b1 b2 t1 t2 g1 g2 L1 L2,RootAt b1 W (.iface t1 (.pointer (some ⟨g1,0,none⟩))) L1→RootAt b2 W (.iface t2 (.pointer (some ⟨g2,0,none⟩))) L2→L1.map (·.2)=rs→L2.map (·.2)=rs→Calls Tryz.prog 33 #[.agg #[.iface t1 (.pointer (some ⟨g1,0,none⟩))],.agg #[.iface t2 (.pointer (some ⟨g2,0,none⟩))]] W (BoolPost W true)):=
  Lib.hid fun W b1 b2 t1 t2 g1 g2 L1 L2 h1 h2 e1 e2=>tree_Same_eq h1 h2 e1 e2 (by omega) hrl
 have HND:Hid (∀W b v L,RootAt b W v L→L.map (·.2)=rs→Calls Tryz.prog 27 #[.agg #[v]] W (IntPost W (rs.length:Nat))):=Lib.hid fun W b v L h e=>by
  have:=tree_Nodes h (by rw[←e,List.length_map]at hr5;omega)
  rwa [show L.length=rs.length by rw[←e,List.length_map]]at this
 have HR5:=Lib.hid hr5;obtain⟨o1,ho1⟩: ∃o1:ByteArray,o1=⟨(opAt i).toArray⟩:=⟨_,rfl⟩;obtain⟨o2,ho2⟩: ∃o2:ByteArray,o2=⟨(opAt j).toArray⟩:=⟨_,rfl⟩;have HOP:Hid (∀W,Below w.heap.size w W→W.cell? ⟨0,i,none⟩=some (.string o1)∧W.cell? ⟨0,j,none⟩=some (.string o2)):=Lib.hid fun W hb=>
  ⟨(hb.cell (p:=⟨_,i,none⟩) ho.lt).trans (by rw[ho1];exact ho.cell i hi),(hb.cell (p:=⟨_,j,none⟩) ho.lt).trans (by rw[ho2];exact ho.cell j hj)⟩
 have HO1:Hid (o1.data.toList=opAt i):=Lib.hid (by rw[ho1]);have HO2:Hid (o2.data.toList=opAt j):=Lib.hid (by rw[ho2]);have s1:o1.size≤6:=by rw[←len_data,ho1];exact opAt_len hi
 have s2:o2.size≤6:=by rw[←len_data,ho2];exact opAt_len hj
 have hl6:=lvl_le i;have hl6':=lvl_le j;rw[←hla]at hl6;rw[←hlb]at hl6';obtain⟨lf,hlf⟩: ∃lf,lf=leftB i j neg:=⟨_,rfl⟩;have hlv:lf=if neg=true∧lb=6 then false else decide (lb<la)||(decide (la=lb)&&decide (la≠6)):=by rw[hlf,leftB,hla,hlb]
 have HLF:=Lib.hid hlf;have HOZ:=Lib.hid ho.lt;clear ho1 ho2 ho hTw hr1 hr2 hr4 hr5 hlen hrl ei ej hla hlb hlf hx hy;go_enter Tryz.func13,Tryz.ntmps13;go_wp2_with fail;refine HAW.out.mono ?_;rintro e w1 ⟨rfl,hb1⟩;have HB1:=Lib.hid hb1;clear hb1;go_upto_if 26 with(first|(go_at_call 47;(first|(with_reducible refine(HPX.out _).mono ?_)|(with_reducible refine(HPY.out _).mono ?_));rintro e w' ⟨rfl,rfl⟩))
 go_cut [10]from 26 to 29 (fun t10 wx=>t10= .string (midB neg)∧wx=w1)
 case first=>
  cases neg
  all_goals
   go_wp2_with fail;go_meet;exact⟨rfl,rfl⟩
 case rest=>
  obtain⟨rfl,rfl⟩:=hcut;have HBS:=Lib.hid (midB_data neg);have s3:=midB_size neg;generalize midB neg=bs at HBS s3 ⊢
  go_upto_region 7 with(fail)
  go_cut [12]from 29 to 46 (fun t12 wx=>t12= .bool (decide (lb<la)||(decide (la=lb)&&decide (la≠6)))∧wx=wc)
  case first=>
   by_cases h1:lb<la
   ·have p1:((lb:Int)<(la:Int))=True:=eq_true (by omega);go_wp2_with (first|(go_at_call 48;(first|(with_reducible refine(HLI.out _).mono ?_)|(with_reducible refine(HLJ.out _).mono ?_));rintro e w' ⟨rfl,rfl⟩));go_meet;exact⟨by rw[decide_eq_true h1];rfl,rfl⟩
   ·have p1:((lb:Int)<(la:Int))=False:=eq_false (by omega);by_cases h2:la=lb
    ·have p2:((la:Int)==(lb:Int))=true:=by rw[h2];simp
     rcases lvl_six la with⟨h6,p3⟩|⟨h6,p3⟩
     all_goals
      have HH:=Lib.hid (And.intro h1 (And.intro h2 h6));clear h1 h2 h6;go_wp2_with (first|(go_at_call 48;(first|(with_reducible refine(HLI.out _).mono ?_)|(with_reducible refine(HLJ.out _).mono ?_));rintro e w' ⟨rfl,rfl⟩));go_meet;exact⟨by rw[decide_eq_false HH.out.1,decide_eq_true HH.out.2.1];simp[HH.out.2.2],rfl⟩
    ·have p2:((la:Int)==(lb:Int))=false:=beq_eq_false_iff_ne.2 (by omega);go_wp2_with (first|(go_at_call 48;(first|(with_reducible refine(HLI.out _).mono ?_)|(with_reducible refine(HLJ.out _).mono ?_));rintro e w' ⟨rfl,rfl⟩));go_meet;exact⟨by rw[decide_eq_false h1,decide_eq_false h2];rfl,rfl⟩
  case rest=>
   obtain⟨rfl,rfl⟩:=hcut;generalize (decide (lb<la)||(decide (la=lb)&&decide (la≠6)))=lv at hlv ⊢
   have HLV:Hid (lf=if (neg&&decide (lb=6))=true then false else lv):=Lib.hid (by rw[hlv];simp);clear hlv;go_upto_region 8 with(fail)
   go_cut [51]from 46 to 51 (fun t51 wx=>t51= .bool (neg&&decide (lb=6))∧wx=wc)
   case first=>
    cases neg
    ·go_wp2_with fail;go_meet;exact⟨rfl,rfl⟩
    ·rcases lvl_six' lb with⟨h6,p6⟩|⟨h6,p6⟩
     all_goals
      have HH:=Lib.hid h6;clear h6;go_wp2_with (first|(go_at_call 48;(first|(with_reducible refine(HLI.out _).mono ?_)|(with_reducible refine(HLJ.out _).mono ?_));rintro e w' ⟨rfl,rfl⟩));go_meet;exact⟨by simp[HH.out],rfl⟩
   case rest=>
    obtain⟨rfl,rfl⟩:=hcut;generalize (neg&&decide (lb=6))=tv at HLV ⊢
    go_upto_if 51 with(fail)
    go_cut [12]from 52 to 52 (fun t12 wx=>t12= .bool lf∧wx=wc)
    case first=>
     cases tv
     all_goals
      go_wp2_with fail;go_meet;exact⟨by rw[HLV.out];rfl,rfl⟩
    case rest=>
    obtain⟨rfl,rfl⟩:=hcut;have pi:((i:Int)<15)=True:=eq_true (by omega);have pj:((j:Int)<15)=True:=eq_true (by omega);obtain⟨ca,cb⟩:=HOP.out _ HB1.out;have Z:=sums_ok s1 s2 s3;have hwz:0<wc.heap.size:=Nat.lt_of_lt_of_le HOZ.out HB1.out.size;have hal:=fun o=>HOP.out (wc.alloc o) (HB1.out.alloc HB1.out.size o)
    go_upto_region 10 with(fail)
    go_cut [13,14,15]from 52 to 74 (fun t13 t14 t15 wx=> ∃p tt g L,t13= .pointer (some ⟨p,0,none⟩)∧t14= .int .i64 0∧t15= .int .i64 0∧Hid (BoxI w p (.iface tt (.pointer (some ⟨g,0,none⟩))) L wx∧L.map (·.2)=rs))
    case first=>
     go_region_held3 (fun W=>W.cell? ⟨0,i,none⟩=some (.string o1)∧W.cell? ⟨0,j,none⟩=some (.string o2)) (first|go_keep|(refine⟨?_,?_⟩<;>(rw[World.cell?_setCell_other _ _ _ _ (by first|omega|simp|(simp;omega))];assumption))) (first
      |(go_at_call 44;(with_reducible refine(HP1.out _ _ HB1.out.drew (by simp[flatL,HBS.out,HO1.out,HO2.out])).mono ?_);rintro e Wp ⟨tt,g,L,rfl,hroot,hL,hb⟩;have hbw:=HB1.out.trans ((((Below.refl _ _).drew).trans hb).mono HB1.out.size);obtain⟨a1,a2⟩:=HOP.out _ hbw;have HBX:=Lib.hid (And.intro (BoxI.new hroot hbw) hL);clear hroot hL hb hbw)
      |(go_at_call 44;(with_reducible refine(HP1.out _ _ (HB1.out.alloc HB1.out.size _).drew (by simp[flatL,HBS.out,HO1.out,HO2.out])).mono ?_);rintro e Wp ⟨tt,g,L,rfl,hroot,hL,hb⟩;obtain⟨k0,f0,hbi,hbw⟩:=box_late HB1.out hroot hb;obtain⟨a1,a2⟩:=HOP.out _ hbw;have hpz:0<Wp.heap.size:=Nat.lt_of_lt_of_le HOZ.out hbw.size;have HBX:=Lib.hid (And.intro hbi hL);clear hroot hL hb hbw hbi))
     all_goals
      go_wp2_with fail;go_meet;exact⟨_,_,_,_,rfl,rfl,rfl,HBX⟩
    case rest=>
    obtain⟨p,tt,g,L,rfl,rfl,rfl,HBX⟩:=hcut;have HL:=Lib.hid HBX.out.2;replace HBX:=Lib.hid HBX.out.1;clear ca cb hal hwz;obtain⟨ca,cb⟩:=HOP.out _ HBX.out.1;go_upto_region 11 with(fail)
    go_cut [16]from 74 to 92 (fun t16 wx=> ∃S:ByteArray,t16= .string S∧Hid (S.data.toList=[49]++[32]++opAt i++[32,40]++midL neg++[32]++opAt j++[32]++[48,120,51]++[41])∧Hid (BoxI w p (.iface tt (.pointer (some ⟨g,0,none⟩))) L wx))
    case first=>
     go_region_held3 (fun W=>W.cell? ⟨0,i,none⟩=some (.string o1)∧W.cell? ⟨0,j,none⟩=some (.string o2)) (first|go_keep) (first|fail)
     all_goals
      go_wp2_with fail;go_meet;exact⟨_,rfl,Lib.hid (by simp[HBS.out,HO1.out,HO2.out]),Lib.hid (HBX.out.below (Below.refl _ _).drew)⟩
    case rest=>
    obtain⟨S1,rfl,HS1,HB2⟩:=hcut;clear HBX ca cb;obtain⟨ca,cb⟩:=HOP.out _ HB2.out.1;go_upto_if 92 with(fail)
    go_cut [16]from 93 to 111 (fun t16 wx=> ∃S:ByteArray,t16= .string S∧Hid (S.data.toList=brackL i j neg)∧Hid (BoxI w p (.iface tt (.pointer (some ⟨g,0,none⟩))) L wx))
    case first=>
     cases lf
     ·go_wp2_with fail;go_meet;exact⟨_,rfl,Lib.hid (by rw[HS1.out,brackL,←HLF.out];simp),HB2⟩
     ·go_upto_region 13 with(fail)
      go_region_held3 (fun W=>W.cell? ⟨0,i,none⟩=some (.string o1)∧W.cell? ⟨0,j,none⟩=some (.string o2)) (first|go_keep) (first|fail)
      all_goals
       go_wp2_with fail;go_meet;exact⟨_,rfl,Lib.hid (by rw[brackL,←HLF.out];simp[HBS.out,HO1.out,HO2.out]),Lib.hid (HB2.out.below (Below.refl _ _).drew)⟩
    case rest=>
    obtain⟨S2,rfl,HS2,HB3⟩:=hcut;clear HS1 HB2 ca cb Z;have HB3a:Hid (Below w.heap.size w wc):=Lib.hid HB3.out.1;go_upto_region 15 with(first|(go_at_call 44;(with_reducible refine(HP2.out _ _ HB3a.out HS2.out).mono ?_);rintro e Wq ⟨tt2,g2,L2,rfl,hroot2,hL2,hb2⟩;have hbw2:=HB3a.out.trans (hb2.mono HB3a.out.size);have HBb:=Lib.hid (BoxI.new hroot2 hbw2);have HBa:=Lib.hid ((HB3.out.below hb2).below ((Below.refl _ Wq).alloc (Nat.le_refl _) (.cells #[.iface tt2 (.pointer (some ⟨g2,0,none⟩))] 26)));have HL2:=Lib.hid hL2;clear hroot2 hL2 hb2 hbw2))
    obtain⟨W3,hW3⟩: ∃W3,W3=Wq.alloc (.cells #[.iface tt2 (.pointer (some ⟨g2,0,none⟩))] 26):=⟨_,rfl⟩;rw[←hW3]at HBa HBb;have HW3:=Lib.hid hW3;obtain⟨hx1,kx1,b1,rx1⟩:=HBa.out;obtain⟨_,kx2,b2,rx2⟩:=HBb.out;have c1:=kx1.cell 0;have c2:=kx2.cell 0;simp at c1 c2;have HK1:=Lib.hid kx1;have HX1:=Lib.hid hx1;have HSS:=Lib.hid (HSM.out W3 _ _ _ _ _ _ _ _ rx1 rx2 HL.out HL2.out);have HNN:Hid (∀W,Below W3.heap.size W3 W→Calls Tryz.prog 27 #[.agg #[.iface tt (.pointer (some ⟨g,0,none⟩))]] W (IntPost W (rs.length:Nat))):=Lib.hid fun W hb=>HND.out W _ _ _ (rx1.below hb) HL.out
    have p5:((5:Int)≤(rs.length:Int))=True:=eq_true (by have:=HR5.out.1;omega);clear hW3 hx1 kx1 kx2 rx1 rx2 HBa HBb HB3 HB3a;rw[←HW3.out];go_wp2_with (first
     |(go_at_call 33;(with_reducible refine HSS.out.mono ?_);rintro e W4 ⟨rfl,hb4⟩;have d1:=(hb4.cell (p:=⟨p,0,none⟩) HK1.out.lt).trans (HK1.out.cell 0);simp at d1;have HB4:=Lib.hid hb4;clear hb4)
     |(go_at_call 27;(with_reducible refine(HNN.out _ HB4.out).mono ?_);rintro e W5 ⟨rfl,hb5⟩;have HB5:=Lib.hid (HX1.out.trans ((HB4.out.trans (hb5.mono HB4.out.size)).mono HX1.out.size));clear hb5))
    go_ret;exact⟨rfl,HB5.out⟩
end Go.Proofs.YtibcjfjacielbaaGreatDoor
