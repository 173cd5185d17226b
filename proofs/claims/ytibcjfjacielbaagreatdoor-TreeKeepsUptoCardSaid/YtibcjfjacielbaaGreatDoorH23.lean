import Derived.Test.YtibcjfjacielbaaGreatDoorH17
import Derived.Test.YtibcjfjacielbaaGreatDoorH21
import Derived.Test.YtibcjfjacielbaaGreatDoorH22
/- Part of the proof of YtibcjfjacielbaaGreatDoorCardH: TrV TrW TrXb TrSc TrI TrZ TrZa TrZb TrZc TrZd TrZe TrZf TrZg TrYa. -/
set_option maxRecDepth 100000
set_option maxHeartbeats 4000000
set_option linter.unusedVariables false
set_option linter.unusedSimpArgs false
namespace Go.Proofs.YtibcjfjacielbaaGreatDoor
open Go.RowKit
theorem tree_unused {b:Nat} {w:World} {r:PR} {m o i l:Value} (h:RowLs b w r m o i l):Calls Tryz.prog 170 #[rowV r m o i l] w (RowAt w (unP r)):=by
 have k:=h.lo (Nat.zero_le _);obtain⟨⟨_,_,rfl,_⟩,⟨_,_,rfl,_⟩,⟨_,_,rfl,_⟩,⟨_,_,rfl,_⟩⟩:=h;obtain⟨kind,kids,op,text,ms,dur,step,off,tim,bool,given,on,mls,card,inc,without,labels⟩:=r;by_cases h1:kind=1
 ·subst h1;exact unused_1 w kids op text dur step off tim bool given on without card ms mls inc labels _ _ _ _ _ _ _ _ _ _ _ _ k
 by_cases h2:kind=2
 ·subst h2;exact unused_2 w kids op text dur step off tim bool given on without card ms mls inc labels _ _ _ _ _ _ _ _ _ _ _ _ k
 by_cases h3:kind=3
 ·subst h3;exact unused_3 w kids op text dur step off tim bool given on without card ms mls inc labels _ _ _ _ _ _ _ _ _ _ _ _ k
 by_cases h4:kind=4
 ·subst h4;exact unused_4 w kids op text dur step off tim bool given on without card ms mls inc labels _ _ _ _ _ _ _ _ _ _ _ _ k
 by_cases h5:kind=5
 ·subst h5;exact unused_5 w kids op text dur step off tim bool given on without card ms mls inc labels _ _ _ _ _ _ _ _ _ _ _ _ k
 by_cases h6:kind=6
 ·subst h6;exact unused_6 w kids op text dur step off tim bool given on without card ms mls inc labels _ _ _ _ _ _ _ _ _ _ _ _ k
 by_cases h7:kind=7
 ·subst h7;exact unused_7 w kids op text dur step off tim bool given on without card ms mls inc labels _ _ _ _ _ _ _ _ _ _ _ _ k
 by_cases h8:kind=8
 ·subst h8;exact unused_8 w kids op text dur step off tim bool given on without card ms mls inc labels _ _ _ _ _ _ _ _ _ _ _ _ k
 by_cases h9:kind=9
 ·subst h9;exact unused_9 w kids op text dur step off tim bool given on without card ms mls inc labels _ _ _ _ _ _ _ _ _ _ _ _ k
 exact unused_o w kind h1 h2 h3 h4 h5 h6 h7 h8 h9 kids op text dur step off tim bool given on without card ms mls inc labels _ _ _ _ _ _ _ _ _ _ _ _ k
theorem unP_lens (r:PR):(unP r).ms.length≤r.ms.length∧(unP r).mls.length≤r.mls.length∧(unP r).inc.length≤r.inc.length∧(unP r).labels.length≤r.labels.length:=by
 obtain⟨kind,kids,op,text,ms,dur,step,off,tim,bool,given,on,mls,card,inc,without,labels⟩:=r;by_cases h1:kind=1
 ·subst h1;simp[unP]
 by_cases h2:kind=2
 ·subst h2;simp[unP]
 by_cases h3:kind=3
 ·subst h3;simp[unP]
 by_cases h4:kind=4
 ·subst h4;simp[unP]
 by_cases h5:kind=5
 ·subst h5;simp[unP]
 by_cases h6:kind=6
 ·subst h6;simp[unP]
 by_cases h7:kind=7
 ·subst h7;simp[unP]
 by_cases h8:kind=8
 ·subst h8;simp[unP]
 by_cases h9:kind=9
 ·subst h9;simp[unP]
 simp[unP,h1,h2,h3,h4,h5,h6,h7,h8,h9]
theorem LenOK.un {r:PR} (h:LenOK r):LenOK (unP r):=by
 obtain⟨a,b,c,d⟩:=unP_lens r;exact⟨Nat.le_trans a h.1,Nat.le_trans b h.2.1,Nat.le_trans c h.2.2.1,Nat.le_trans d h.2.2.2⟩
theorem emptyB_iff {s:ByteArray}:emptyB s=true↔s=eS:=by
 unfold emptyB eS;constructor
 ·intro h;rw[List.isEmpty_iff]at h;rw[←mk_data s,h]
 ·rintro rfl;rfl
def kind9 (k:Int):Prop:=k=1∨k=2∨k=3∨k=4∨k=5∨k=6∨k=7∨k=8∨k=9
theorem kidsB_kind {k n:Int} (h:kidsB k n=true):kind9 k:=by
 unfold kidsB at h;unfold kind9
 repeat' split at h
 all_goals first|omega|simp at h
theorem unused_iff {r:PR} (h:kind9 r.kind):unusedB r=true↔unP r=zr r.kind 0:=by
 obtain⟨kind,kids,op,text,ms,dur,step,off,tim,bool,given,on,mls,card,inc,without,labels⟩:=r;simp only at h;unfold unusedB unP zr noOp noText noMs noDur noStep noWhen noMatching noLabels;rcases h with rfl|rfl|rfl|rfl|rfl|rfl|rfl|rfl|rfl
 all_goals simp[emptyB_iff,List.isEmpty_iff,and_assoc]
def OB (w:World) (A:Array Value) (W:World):Prop:=Below w.heap.size w W∧Blk W w.heap.size 58 A
theorem OB.below {w:World} {A:Array Value} {W W':World} (h:OB w A W) (hb:Below W.heap.size W W'):OB w A W':=⟨h.1.trans (hb.mono h.1.size),h.2.below hb h.2.lt⟩
theorem OB.drew {w:World} {A:Array Value} {W:World} (h:OB w A W):OB w A W.drew:=⟨h.1.drew,h.2.drew⟩
theorem ob_new (w:World) (A:Array Value):OB w A (w.alloc (.cells A 58)):=⟨(Below.refl _ w).alloc (Nat.le_refl _) _,Blk.new _ _ _⟩
def UnX (w:World) (A:Array Value) (r:PR) (e:Ending) (W':World):Prop:= ∃m o i l,e= .returned (rowV (unP r) m o i l)∧RowLs 0 W' (unP r) m o i l∧OB w A W'
theorem un_x {w W:World} {A:Array Value} {r:PR} {m o i l:Value} (h:RowLs 0 w r m o i l) (hs:OB w A W):Calls Tryz.prog 170 #[rowV r m o i l] W (UnX w A r):=
 (tree_unused (h.below hs.1)).mono fun e W' ⟨m',o',i',l',h1,h2,h3⟩=>⟨m',o',i',l',h1,h2,hs.below h3⟩
def SaX (w:World) (A:Array Value) (p:Prop) (e:Ending) (W':World):Prop:= ∃b:Bool,e= .returned (.bool b)∧(b=true↔p)∧OB w A W'
theorem zr_ls (w:World) (k:Int):RowLs 0 w (zr k 0) (.slice none 0 0) (.slice none 0 0) (.slice none 0 0) (.slice none 0 0):=⟨matS_none _ _,strS_none _ _,strS_none _ _,strS_none _ _⟩
theorem sa_x {w W:World} {A:Array Value} {r:PR} {k:Int} {m o i l:Value} (h:RowLs 0 W (unP r) m o i l) (hl:LenOK (unP r)) (hs:OB w A W):
  Calls Tryz.prog 76 #[rowV (unP r) m o i l,rowV (zr k 0) (.slice none 0 0) (.slice none 0 0) (.slice none 0 0) (.slice none 0 0)] W (SaX w A (unP r=zr k 0)):=
 (tree_same h (zr_ls W k) hl ⟨by simp[zr],by simp[zr],by simp[zr],by simp[zr]⟩).mono fun e W' ⟨b,h1,h2,h3⟩=>⟨b,h1,h2,hs.below h3⟩
theorem sound_kids (w:World) (r:PR) (am ao ai al:Option Addr) (nm cm no co ni ci nl cl:Nat) (h:RowLs 0 w r (.slice am nm cm) (.slice ao no co) (.slice ai ni ci) (.slice al nl cl)) (hl:LenOK r) (hk:kidsB r.kind r.kids=false):
  Calls Tryz.prog 122 #[.agg #[.int .i64 r.kind,.int .i64 r.kids,.string r.op,.string r.text,.slice am nm cm,.string r.dur,.string r.step,.string r.off,.string r.tim,.bool r.bool,.bool r.given,.bool r.on,.slice ao no co,.int .i64 r.card,.slice ai ni ci,.bool r.without,.slice al nl cl]] w (BoolPost w false):=by
 have HK:=Lib.hid hk;clear h hk;have HB:Hid (∀X n,Below w.heap.size w ((w.alloc X).drewN n)):=Lib.hid fun X n=>Go.below_drewN ((Below.refl _ w).alloc (Nat.le_refl _) X) n
 go_enter Tryz.func122,Tryz.ntmps122;go_upto_region 1 with(fail)
 go_quiet ((go_at_call 169;exact Calls.quiet_of_same ((tree_kidsFit _ _ _).mono fun _ _ ⟨h1,h2⟩=>⟨by rw[h1,HK.out],h2.symm⟩)));go_wp2_with fail;go_ret;exact⟨rfl,HB.out _ _⟩
structure SmallR (r:PR):Prop where
 op:r.op.size≤1048576
 text:r.text.size≤1048576
 dur:r.dur.size≤1048576
 step:r.step.size≤1048576
 off:r.off.size≤1048576
 tim:r.tim.size≤1048576
 msn:r.ms.length≤1048576
 ms: ∀m∈r.ms,m.name.size≤1048576∧m.value.size≤1048576
 mlsn:r.mls.length≤1048576
 mls: ∀s∈r.mls,s.size≤1048576
 incn:r.inc.length≤1048576
 inc: ∀s∈r.inc,s.size≤1048576
 labn:r.labels.length≤1048576
 lab: ∀s∈r.labels,s.size≤1048576
theorem SmallR.len {r:PR} (h:SmallR r):LenOK r:=⟨by have:=h.msn;omega,by have:=h.mlsn;omega,by have:=h.incn;omega,by have:=h.labn;omega⟩
def BoX (w:World) (A:Array Value) (b:Bool) (e:Ending) (W':World):Prop:=e= .returned (.bool b)∧OB w A W'
theorem bo_x {w W:World} {A:Array Value} {b:Bool} {f:FuncId} {args:Array Value} (h:Calls Tryz.prog f args W (BoolPost W b)) (hs:OB w A W):Calls Tryz.prog f args W (BoX w A b):=h.mono fun e W' ⟨h1,h2⟩=>⟨h1,hs.below h2⟩
theorem bo_e {w W:World} {A:Array Value} {b:Bool} {f:FuncId} {args:Array Value} (h:Calls Tryz.prog f args W fun e w'=>e= .returned (.bool b)∧W=w') (hs:OB w A W):Calls Tryz.prog f args W (BoX w A b):=h.mono fun e W' ⟨h1,h2⟩=>⟨h1,by subst h2;exact hs⟩
theorem sound_1 (w:World) (r:PR) (am ao ai al:Option Addr) (nm cm no co ni ci nl cl:Nat) (h:RowLs 0 w r (.slice am nm cm) (.slice ao no co) (.slice ai ni ci) (.slice al nl cl)) (hl:LenOK r) {T:Nat→World→Prop} (hT:NumT (fun _=>True) T) (hTw:T w.heap.size w) (hr:SmallR r) (hkind:r.kind=1) (hk:kidsB r.kind r.kids=true) (hu:unP r=zr r.kind 0):
  Calls Tryz.prog 122 #[.agg #[.int .i64 r.kind,.int .i64 r.kids,.string r.op,.string r.text,.slice am nm cm,.string r.dur,.string r.step,.string r.off,.string r.tim,.bool r.bool,.bool r.given,.bool r.on,.slice ao no co,.int .i64 r.card,.slice ai ni ci,.bool r.without,.slice al nl cl]] w (BoolPost w (lexemeB r.text)):=by
 have hTT: ∀W,Below w.heap.size w W→T W.heap.size W:=fun W hb=>hT.mono (hT.keep hTw hb) hb.size
 obtain⟨A,hA⟩: ∃A,A=rowA r (.slice am nm cm) (.slice ao no co) (.slice ai ni ci) (.slice al nl cl):=⟨_,rfl⟩;obtain⟨W1,hW1⟩: ∃W1,W1=w.alloc (.cells A 58):=⟨_,rfl⟩;have hs0:OB w A W1:=by rw[hW1];exact ob_new w A
 have HS0:Hid (OB w A W1.drew):=Lib.hid hs0.drew;have HU:Hid (∀W,OB w A W→Calls Tryz.prog 170 #[.agg #[.int .i64 r.kind,.int .i64 r.kids,.string r.op,.string r.text,.slice am nm cm,.string r.dur,.string r.step,.string r.off,.string r.tim,.bool r.bool,.bool r.given,.bool r.on,.slice ao no co,.int .i64 r.card,.slice ai ni ci,.bool r.without,.slice al nl cl]] W (UnX w A r)):=Lib.hid fun W hs=>un_x h hs
 have HA:=Lib.hid hA;have HH:=Lib.hid h;have c0:W1.drew.cell? ⟨w.heap.size,0,none⟩=some (.int .i64 r.kind):=(hs0.2.cell 0).trans (by rw[hA];rfl);have c1:W1.drew.cell? ⟨w.heap.size,1,none⟩=some (.int .i64 r.kids):=(hs0.2.cell 1).trans (by rw[hA];rfl);have c2:W1.drew.cell? ⟨w.heap.size,2,none⟩=some (.string r.op):=(hs0.2.cell 2).trans (by rw[hA];rfl);have c3:W1.drew.cell? ⟨w.heap.size,3,none⟩=some (.string r.text):=(hs0.2.cell 3).trans (by rw[hA];rfl);have c4:W1.drew.cell? ⟨w.heap.size,4,none⟩=some (.slice am nm cm):=(hs0.2.cell 4).trans (by rw[hA];rfl);have c5:W1.drew.cell? ⟨w.heap.size,5,none⟩=some (.string r.dur):=(hs0.2.cell 5).trans (by rw[hA];rfl);have c6:W1.drew.cell? ⟨w.heap.size,6,none⟩=some (.string r.step):=(hs0.2.cell 6).trans (by rw[hA];rfl);have c7:W1.drew.cell? ⟨w.heap.size,7,none⟩=some (.string r.off):=(hs0.2.cell 7).trans (by rw[hA];rfl);have c8:W1.drew.cell? ⟨w.heap.size,8,none⟩=some (.string r.tim):=(hs0.2.cell 8).trans (by rw[hA];rfl);have c9:W1.drew.cell? ⟨w.heap.size,9,none⟩=some (.bool r.bool):=(hs0.2.cell 9).trans (by rw[hA];rfl);have c10:W1.drew.cell? ⟨w.heap.size,10,none⟩=some (.bool r.given):=(hs0.2.cell 10).trans (by rw[hA];rfl);have c11:W1.drew.cell? ⟨w.heap.size,11,none⟩=some (.bool r.on):=(hs0.2.cell 11).trans (by rw[hA];rfl);have c12:W1.drew.cell? ⟨w.heap.size,12,none⟩=some (.slice ao no co):=(hs0.2.cell 12).trans (by rw[hA];rfl);have c13:W1.drew.cell? ⟨w.heap.size,13,none⟩=some (.int .i64 r.card):=(hs0.2.cell 13).trans (by rw[hA];rfl);have c14:W1.drew.cell? ⟨w.heap.size,14,none⟩=some (.slice ai ni ci):=(hs0.2.cell 14).trans (by rw[hA];rfl);have c15:W1.drew.cell? ⟨w.heap.size,15,none⟩=some (.bool r.without):=(hs0.2.cell 15).trans (by rw[hA];rfl);have c16:W1.drew.cell? ⟨w.heap.size,16,none⟩=some (.slice al nl cl):=(hs0.2.cell 16).trans (by rw[hA];rfl);rw[hA]at hW1;simp only[rowA]at hW1;have HW1:=Lib.hid hW1;have HL:=Lib.hid hl.un;have HK:=Lib.hid hk;have HC:Hid (∀W,OB w A W→Calls Tryz.prog 171 #[.string r.text] W (BoX w A (lexemeB r.text))):=Lib.hid fun W hs=>bo_x (tree_lexeme hT W _ hr.text (hTT W hs.1)) hs
 have HUU:=Lib.hid hu;have HKI:=Lib.hid hkind;clear h hl hs0 hA hW1 hk hTT hTw hu hkind;obtain⟨g0,hg0⟩: ∃g,g=lexemeB r.text:=⟨_,rfl⟩
 (try rw[←hg0]at HC)
 (try rw[←hg0])
 clear hg0;go_enter Tryz.func122,Tryz.ntmps122;go_upto_region 1 with(fail)
 rw[←HW1.out];go_cut [18]from 4 to 19 (fun t18 wx=>t18= .bool false∧Hid (OB w A wx))
 case first=>
  go_region_with (first|(go_at_call 169;refine(tree_kidsFit _ _ _).mono ?_;rintro e w' ⟨rfl,rfl⟩;rw[HK.out])|(go_at_call 170;refine(HU.out _ HS0.out).mono ?_;rintro e WU ⟨um,uo,ui,ul,rfl,hls,hs⟩;have u0:WU.cell? ⟨w.heap.size,0,none⟩=some (.int .i64 r.kind):=(hs.2.cell 0).trans (by rw[HA.out];rfl);have HSU:=Lib.hid hs;have HLS:=Lib.hid hls;clear hs hls)|(go_at_call 76;refine(sa_x (k:=r.kind) HLS.out HL.out HSU.out).mono ?_;rintro e WS ⟨bs,rfl,hbs,hs⟩;have HSS:=Lib.hid hs;have HBS:=Lib.hid hbs;clear hs hbs))
  all_goals
   have hb:bs=true:=HBS.out.2 HUU.out;subst hb;go_wp2_with fail;go_meet;exact⟨rfl,HSS⟩
 case rest=>
  obtain⟨rfl,hob⟩:=hcut;have d0:wc.cell? ⟨w.heap.size,0,none⟩=some (.int .i64 1):=(hob.out.2.cell 0).trans (by rw[HA.out,←HKI.out];rfl);have d3:wc.cell? ⟨w.heap.size,3,none⟩=some (.string r.text):=(hob.out.2.cell 3).trans (by rw[HA.out];rfl);have HOB:=Lib.hid hob.out;clear hob c0 c1 c2 c3 c4 c5 c6 c7 c8 c9 c10 c11 c12 c13 c14 c15 c16
  all_goals
   go_wp2_with (first|(go_at_call 171;(with_reducible refine(HC.out _ (by first|exact HOB.out)).mono ?_);rintro e W5 ⟨rfl,hs⟩;have k0_3:W5.cell? ⟨w.heap.size,3,none⟩=some (.string r.text):=(hs.2.cell 3).trans (by rw[HA.out];rfl);have HO0:=Lib.hid hs;clear hs))
   all_goals
    go_ret;exact⟨ret_bool (by first|rfl|(simp)),by first|exact HO0.out.1|exact HOB.out.1⟩
def SoundC (T:Nat→World→Prop):Prop:= ∀(w:World) (r:PR) (m o i l:Value),RowLs 0 w r m o i l→SmallR r→T w.heap.size w→Calls Tryz.prog 122 #[rowV r m o i l] w (BoolPost w (soundRow r))
end Go.Proofs.YtibcjfjacielbaaGreatDoor
set_option linter.unusedVariables false
set_option linter.unusedSimpArgs false
namespace Go.Proofs.YtibcjfjacielbaaGreatDoor
def pendT:List Nat→List Nat
 |[]=>[]
 |c::s=>List.replicate (c-1) (s.length+2)++pendT s
def pend:List Nat→List Nat
 |[]=>[]
 |c::s=>List.replicate c (s.length+2)++pendT s
def norm:List Nat→List Nat
 |0::c::s=>norm ((c-1)::s)
 |[0]=>[]
 |s=>s
termination_by s=>s.length
theorem norm_zero (c:Nat) (s:List Nat):norm (0::c::s)=norm ((c-1)::s):=by rw[norm]
theorem norm_one:norm [0]=[]:=by rw[norm]
theorem norm_nil:norm []=[]:=by rw[norm]<;>simp
theorem norm_pos {c:Nat} (s:List Nat) (h:0<c):norm (c::s)=c::s:=by
 rw[norm]
 ·rintro c' s' h';injection h' with h1 _
  omega
 ·intro h';injection h' with h1 _
  omega
theorem pend_norm: ∀s:List Nat,pend (norm s)=pend s
 |[]=>by rw[norm_nil]
 |[0]=>by rw[norm_one];rfl
 |0::c::s=>by rw[norm_zero,pend_norm ((c-1)::s)];simp[pend,pendT]
 |(c+1)::s=>by rw[norm_pos s (by omega)]
termination_by s=>s.length
theorem norm_len : ∀ s : List Nat, (norm s).length ≤ s.length
  | [] => by rw [norm_nil]; exact Nat.le_refl _
  | [0] => by rw [norm_one]; simp
  | 0 :: c :: s => by
    rw[norm_zero]
    have:=norm_len ((c-1)::s)
    simp only[List.length_cons]at this ⊢;omega
  | (c + 1) :: s => by rw [norm_pos s (by omega)]; exact Nat.le_refl _
termination_by s=>s.length
def Rest (s:List Nat):Prop:= ∀c t,s=c::t→0<c
theorem rest_norm: ∀s:List Nat,Rest (norm s)
 |[]=>by rw[norm_nil];intro c t h;cases h
 |[0]=>by rw[norm_one];intro c t h;cases h
 |0::c::s=>by rw[norm_zero];exact rest_norm ((c-1)::s)
 |(c+1)::s=>by rw[norm_pos s (by omega)];intro c' t h;injection h with h1 _;omega
termination_by s=>s.length
theorem pend_rest {s:List Nat} (h:Rest s) (hn:s≠[]):pend s=(s.length+1)::pendT s:=by
 cases s with
 |nil=>exact absurd rfl hn
 |cons c t=>
  have:=h c t rfl;obtain⟨d,rfl⟩: ∃d,c=d+1:=⟨c-1,by omega⟩;simp[pend,pendT,List.replicate_succ]
theorem pend_nil {s:List Nat} (h:Rest s):pend s=[]↔s=[]:=by
 constructor
 ·intro h1;cases s with
  |nil=>rfl
  |cons c t=>rw[pend_rest h (by simp)]at h1;cases h1
 ·rintro rfl;rfl
structure Shaping (x:List PR) (s:List Nat) (deep:Nat):Prop where
 rest:Rest s
 deep_:deep=maxL (depthsOf [1] x)
 more:x≠[]→ ∀y,trees 1 (x++y)=trees (pend s).length y∧depthsOf [1] (x++y)=depthsOf [1] x++depthsOf (pend s) y
 none_:x=[]→s=[]
theorem Shaping.start:Shaping [] [] 0:=⟨fun c t h=>(by cases h),rfl,fun h=>absurd rfl h,fun _=>rfl⟩
theorem maxL_snoc (l:List Nat) (a:Nat):maxL (l++[a])=max (maxL l) a:=by
 rw[maxL_app,show maxL [a]=a by rw[maxL_cons];simp[maxL]]
theorem Shaping.step {x:List PR} {s:List Nat} {deep:Nat} (h:Shaping x s deep) (r:PR) (hs:x=[]∨s≠[]):
  Shaping (x++[r]) (norm (nk r::s)) (max deep (s.length+1)):=by
 have hp: ∀y,trees 1 ((x++[r])++y)=trees (pend (nk r::s)).length y∧depthsOf [1] ((x++[r])++y)=depthsOf [1] x++(s.length+1)::depthsOf (pend (nk r::s)) y:=by
  intro y;rw[List.append_assoc,List.singleton_append];by_cases hx:x=[]
  ·have h0:=h.none_ hx;subst hx h0;simp only[List.nil_append,pend,pendT,List.append_nil,List.length_nil,Nat.zero_add,List.length_replicate,depthsOf,List.nil_append];refine⟨?_,by simp⟩;show trees (nk r+0) y=_;rfl
  ·have hn:s≠[]:=hs.resolve_left hx;obtain⟨h1,h2⟩:=h.more hx (r::y);rw[h1,h2,pend_rest h.rest hn];refine⟨?_,by simp[depthsOf,pend]⟩;show trees (nk r+(pendT s).length) y=_;simp[pend]
 refine⟨rest_norm _,?_,fun _ y=>?_,fun h=>absurd h (by simp)⟩
 ·have h1:=(hp []).2;rw[List.append_nil,depthsOf_nil]at h1;rw[h1,maxL_snoc,h.deep_]
 ·obtain⟨h1,h2⟩:=hp y;have h3:=(hp []).2;rw[List.append_nil,depthsOf_nil]at h3;rw[pend_norm];exact⟨h1,by rw[h2,h3,List.append_assoc];rfl⟩
theorem Shaping.full {x:List PR} {s:List Nat} {deep:Nat} (h:Shaping x s deep) (hx:x≠[]) (hs:s=[]) (r:PR) (y:List PR):trees 1 (x++r::y)=false:=by
 rw[(h.more hx (r::y)).1,hs];rfl
theorem Shaping.done {x:List PR} {s:List Nat} {deep:Nat} (h:Shaping x s deep):trees 1 x=(!x.isEmpty&&s.isEmpty):=by
 by_cases hx:x=[]
 ·subst hx;rfl
 ·have h1:=(h.more hx []).1;rw[List.append_nil]at h1;rw[h1];have h2:=pend_nil h.rest;cases s with
  |nil=>simp[pend,trees,hx]
  |cons c t=>
   rw[pend_rest h.rest (by simp)];simp[trees]
theorem Shaping.deepOf {x:List PR} {s:List Nat} {deep:Nat} (h:Shaping x s deep):deep=deepOf x:=h.deep_
theorem trees_many {x y:List PR} {r:PR} (h:(x++r::y).length<nk r):trees 1 (x++r::y)=false:=by
 have gen: ∀(x:List PR) (n:Nat),(x++r::y).length<nk r→trees n (x++r::y)=false:=by
  intro x;induction x with
  |nil=>
   intro n h;cases n with
   |zero=>rfl
   |succ n=>
    cases hc:trees (n+1) ([]++r::y)with
    |false=>rfl
    |true=>
     have h1:=trees_le y (nk r+n) hc;simp only[List.nil_append,List.length_cons]at h;omega
  |cons q x ih=>
   intro n h;cases n with
   |zero=>rfl
   |succ n=>exact ih _ (by simp only[List.cons_append,List.length_cons]at h;omega)
 exact gen x 1 h
theorem rangesB_app {x y:List PR} (h:rangesB y=false):rangesB (x++y)=false:=by
 induction x with
 |nil=>exact h
 |cons r x ih=>rw[List.cons_append,rangesB,ih,Bool.and_false]
theorem rangesB_last {x y:List PR} {r:PR} (h:nextSel y=false) (hk:r.kind=4):rangesB (x++r::y)=false:=by
 refine rangesB_app ?_;rw[rangesB,h,decide_eq_true hk];rfl
def fineB (x y:List PR):Bool:=x.all soundRow&&(rangesB (x++y)==rangesB y)
theorem rangesB_snoc {x y:List PR} {r:PR} (h:(rangesB (x++r::y)==rangesB (r::y))=true) (hr:(!decide (r.kind=4)||nextSel y)=true):
  (rangesB ((x++[r])++y)==rangesB y)=true:=by
 rw[List.append_assoc,List.singleton_append,beq_iff_eq.1 h,rangesB,hr,Bool.true_and];simp
theorem fineB_snoc {x y:List PR} {r:PR} (h:fineB x (r::y)=true) (hs:soundRow r=true) (hr:(!decide (r.kind=4)||nextSel y)=true):fineB (x++[r]) y=true:=by
 unfold fineB at h ⊢
 rw[Bool.and_eq_true]at h ⊢
 exact⟨by rw[List.all_append,h.1];simp[hs],rangesB_snoc h.2 hr⟩
theorem fineB_end {x:List PR} (h:fineB x []=true):shapeB x=trees 1 x:=by
 unfold fineB at h;rw[Bool.and_eq_true,List.append_nil]at h;rw[shapeB,h.1,beq_iff_eq.1 h.2];simp[rangesB]
end Go.Proofs.YtibcjfjacielbaaGreatDoor
set_option linter.unusedVariables false
set_option linter.unusedSimpArgs false
namespace Go.Proofs.YtibcjfjacielbaaGreatDoor
open Go.RowKit
def NodePost (B:Nat) (w:World) (r:PR) (ks:List Value) (e:Ending) (w':World):Prop:= ∃v,e= .returned v∧NodeAt B w' v r ks∧Below w.heap.size w w'
theorem below2 (w:World) (A C:Obj):Below w.heap.size w ((w.alloc A).alloc C):=((Below.refl _ w).alloc (Nat.le_refl _) _).alloc (by simp) _
theorem lt2 (w:World) (A C:Obj):w.heap.size+1<((w.alloc A).alloc C).heap.size:=by simp
theorem node_number (w:World) (B:Nat) (hB:B≤w.heap.size) (t:ByteArray) (kv:Value) (am ao ai al:Option Addr) (nm cm no co ni ci nl cl:Nat):
  Calls Tryz.prog 123 #[.agg #[.int .i64 1,.int .i64 0,.string eS,.string t,.slice am nm cm,.string eS,.string eS,.string eS,.string eS,.bool false,.bool false,.bool false,.slice ao no co,.int .i64 0,.slice ai ni ci,.bool false,.slice al nl cl],kv] w (NodePost B w {zr 1 0 with text:=t} []):=by
 go_enter Tryz.func123,Tryz.ntmps123;go_wp2_with fail;go_ret;exact⟨_,rfl,.number (w.heap.size+1) (by omega) (lt2 _ _ _) t ((blk_new2 _ _ _ _).cell 0),below2 _ _ _⟩
theorem node_text (w:World) (B:Nat) (hB:B≤w.heap.size) (t:ByteArray) (kv:Value) (am ao ai al:Option Addr) (nm cm no co ni ci nl cl:Nat):
  Calls Tryz.prog 123 #[.agg #[.int .i64 2,.int .i64 0,.string eS,.string t,.slice am nm cm,.string eS,.string eS,.string eS,.string eS,.bool false,.bool false,.bool false,.slice ao no co,.int .i64 0,.slice ai ni ci,.bool false,.slice al nl cl],kv] w (NodePost B w {zr 2 0 with text:=t} []):=by
 go_enter Tryz.func123,Tryz.ntmps123;go_wp2_with fail;go_ret;exact⟨_,rfl,.text (w.heap.size+1) (by omega) (lt2 _ _ _) t ((blk_new2 _ _ _ _).cell 0),below2 _ _ _⟩
theorem node_call (w:World) (B:Nat) (hB:B≤w.heap.size) (o:ByteArray) (ak:Option Addr) (ck:Nat) (ks:List Value) (hk:ExpS B w (.slice ak ks.length ck) ks) (am ao ai al:Option Addr) (nm cm no co ni ci nl cl:Nat):
  Calls Tryz.prog 123 #[.agg #[.int .i64 8,.int .i64 (ks.length:Nat),.string o,.string eS,.slice am nm cm,.string eS,.string eS,.string eS,.string eS,.bool false,.bool false,.bool false,.slice ao no co,.int .i64 0,.slice ai ni ci,.bool false,.slice al nl cl],.slice ak ks.length ck] w (NodePost B w {zr 8 (ks.length:Nat)with op:=o} ks):=by
 have HK:=Lib.hid hk;clear hk;go_enter Tryz.func123,Tryz.ntmps123;go_wp2_with fail;go_ret;exact⟨_,rfl,.call (w.heap.size+1) (by omega) (lt2 _ _ _) o _ ks (HK.out.below (below2 _ _ _)) ((blk_new2 _ _ _ _).cell 0) ((blk_new2 _ _ _ _).cell 1),below2 _ _ _⟩
theorem node_selector (w:World) (B:Nat) (hB:B≤w.heap.size) (t off tim:ByteArray) (ms:List PM) (kv:Value) (am ao ai al:Option Addr) (nm cm no co ni ci nl cl:Nat) (hm:MatS 0 w (.slice am nm cm) ms) (hn:ms.length≤1099511627776):
  Calls Tryz.prog 123 #[.agg #[.int .i64 3,.int .i64 0,.string eS,.string t,.slice am nm cm,.string eS,.string eS,.string off,.string tim,.bool false,.bool false,.bool false,.slice ao no co,.int .i64 0,.slice ai ni ci,.bool false,.slice al nl cl],kv] w (NodePost B w {zr 3 0 with text:=t,ms:=ms,off:=off,tim:=tim} []):=by
 have HC:Hid (∀W,Below w.heap.size w W→Calls Tryz.prog 59 #[.agg #[.int .i64 3,.int .i64 0,.string eS,.string t,.slice am nm cm,.string eS,.string eS,.string off,.string tim,.bool false,.bool false,.bool false,.slice ao no co,.int .i64 0,.slice ai ni ci,.bool false,.slice al nl cl]] W (SelPost W {zr 3 0 with text:=t,ms:=ms,off:=off,tim:=tim})):=Lib.hid fun W hb=>tree_selector (r:={zr 3 0 with text:=t,ms:=ms,off:=off,tim:=tim}) (o:=.slice ao no co) (i:=.slice ai ni ci) (l:=.slice al nl cl) (hm.below hb) hn
 have HB:Hid (∀X,Below w.heap.size w (w.alloc X)):=Lib.hid fun X=>(Below.refl _ w).alloc (Nat.le_refl _) X
 clear hm;go_enter Tryz.func123,Tryz.ntmps123;go_wp2_with fail;refine(HC.out _ (HB.out _)).mono ?_;rintro e w2 ⟨g,rfl,hnd,hb2⟩;have HN:=Lib.hid (hnd.lo (b':=B) (Nat.le_trans hB (HB.out _).size));have HB2:=Lib.hid ((HB.out _).trans (hb2.mono (HB.out _).size));clear hnd hb2;go_wp2_with fail;go_ret;exact⟨_,rfl,HN.out,HB2.out⟩
theorem node_unary (w:World) (B:Nat) (hB:B≤w.heap.size) (o:ByteArray) (t:TypeId) (x:Value) (am ao ai al:Option Addr) (nm cm no co ni ci nl cl:Nat) (gk ok ck:Nat) (hbk:B≤gk) (hgk:gk<w.heap.size) (hk0:w.cell? ⟨gk,ok,none⟩=some (.iface t x)):
  Calls Tryz.prog 123 #[.agg #[.int .i64 6,.int .i64 1,.string o,.string eS,.slice am nm cm,.string eS,.string eS,.string eS,.string eS,.bool false,.bool false,.bool false,.slice ao no co,.int .i64 0,.slice ai ni ci,.bool false,.slice al nl cl],.slice (some ⟨gk,ok,none⟩) 1 ck] w (NodePost B w {zr 6 1 with op:=o} [.iface t x]):=by
 obtain⟨A,hA⟩: ∃A:Array Value,A= #[.int .i64 6,.int .i64 1,.string o,.string eS,.slice am nm cm,.string eS,.string eS,.string eS,.string eS,.bool false,.bool false,.bool false,.slice ao no co,.int .i64 0,.slice ai ni ci,.bool false,.slice al nl cl]:=⟨_,rfl⟩;obtain⟨W1,hW1⟩: ∃W1,W1=w.alloc (.cells A 58):=⟨_,rfl⟩;have hb1:Below w.heap.size w W1:=by rw[hW1];exact(Below.refl _ w).alloc (Nat.le_refl _) _
 have hz1:Blk W1 w.heap.size 58 A:=by rw[hW1];exact Blk.new _ _ _
 have b2:W1.cell? ⟨w.heap.size,2,none⟩=some (.string o):=(hz1.cell 2).trans (by rw[hA];rfl);have l0:W1.cell? ⟨gk,ok,none⟩=some (.iface t x):=(hb1.cell (p:=⟨gk,_,none⟩) hgk).trans hk0;have c2:W1.drew.cell? ⟨w.heap.size,2,none⟩=some (.string o):=(hz1.cell 2).trans (by rw[hA];rfl);have k0:W1.drew.cell? ⟨gk,ok,none⟩=some (.iface t x):=(hb1.cell (p:=⟨gk,_,none⟩) hgk).trans hk0;rw[hA]at hW1;have HW1:=Lib.hid hW1;have HB1:=Lib.hid hb1;have s1:=hz1.lt;have s2:gk<W1.heap.size:=Nat.lt_of_lt_of_le hgk hb1.size;clear hW1 hb1 hz1 hA hk0;go_enter Tryz.func123,Tryz.ntmps123;go_wp2_with fail;rw[←HW1.out];go_region_held3 (fun W=>W.cell? ⟨w.heap.size,2,none⟩=some (.string o)∧W.cell? ⟨gk,ok,none⟩=some (.iface t x)) (first|go_keep) (first|fail)
 all_goals
  go_wp2_with fail;go_ret;exact⟨_,rfl,(NodeAt.unary (b:=B) (w:=W1.alloc _) W1.heap.size (Nat.le_trans hB HB1.out.size) ((Blk.new W1 _ _).lt) o t x ((Blk.new W1 _ _).cell 0) ((Blk.new W1 _ _).cell 1)).below (Below.refl _ _).drew,(HB1.out.alloc HB1.out.size _).drew⟩
theorem node_subquery (w:World) (B:Nat) (hB:B≤w.heap.size) (d s off tim:ByteArray) (t:TypeId) (x:Value) (am ao ai al:Option Addr) (nm cm no co ni ci nl cl:Nat) (gk ok ck:Nat) (hbk:B≤gk) (hgk:gk<w.heap.size) (hk0:w.cell? ⟨gk,ok,none⟩=some (.iface t x)):
  Calls Tryz.prog 123 #[.agg #[.int .i64 5,.int .i64 1,.string eS,.string eS,.slice am nm cm,.string d,.string s,.string off,.string tim,.bool false,.bool false,.bool false,.slice ao no co,.int .i64 0,.slice ai ni ci,.bool false,.slice al nl cl],.slice (some ⟨gk,ok,none⟩) 1 ck] w (NodePost B w {zr 5 1 with dur:=d,step:=s,off:=off,tim:=tim} [.iface t x]):=by
 obtain⟨A,hA⟩: ∃A:Array Value,A= #[.int .i64 5,.int .i64 1,.string eS,.string eS,.slice am nm cm,.string d,.string s,.string off,.string tim,.bool false,.bool false,.bool false,.slice ao no co,.int .i64 0,.slice ai ni ci,.bool false,.slice al nl cl]:=⟨_,rfl⟩;obtain⟨W1,hW1⟩: ∃W1,W1=w.alloc (.cells A 58):=⟨_,rfl⟩;have hb1:Below w.heap.size w W1:=by rw[hW1];exact(Below.refl _ w).alloc (Nat.le_refl _) _
 have hz1:Blk W1 w.heap.size 58 A:=by rw[hW1];exact Blk.new _ _ _
 have b5:W1.cell? ⟨w.heap.size,5,none⟩=some (.string d):=(hz1.cell 5).trans (by rw[hA];rfl);have b6:W1.cell? ⟨w.heap.size,6,none⟩=some (.string s):=(hz1.cell 6).trans (by rw[hA];rfl);have b7:W1.cell? ⟨w.heap.size,7,none⟩=some (.string off):=(hz1.cell 7).trans (by rw[hA];rfl);have b8:W1.cell? ⟨w.heap.size,8,none⟩=some (.string tim):=(hz1.cell 8).trans (by rw[hA];rfl);have l0:W1.cell? ⟨gk,ok,none⟩=some (.iface t x):=(hb1.cell (p:=⟨gk,_,none⟩) hgk).trans hk0;have c5:W1.drew.cell? ⟨w.heap.size,5,none⟩=some (.string d):=(hz1.cell 5).trans (by rw[hA];rfl);have c6:W1.drew.cell? ⟨w.heap.size,6,none⟩=some (.string s):=(hz1.cell 6).trans (by rw[hA];rfl);have c7:W1.drew.cell? ⟨w.heap.size,7,none⟩=some (.string off):=(hz1.cell 7).trans (by rw[hA];rfl);have c8:W1.drew.cell? ⟨w.heap.size,8,none⟩=some (.string tim):=(hz1.cell 8).trans (by rw[hA];rfl);have k0:W1.drew.cell? ⟨gk,ok,none⟩=some (.iface t x):=(hb1.cell (p:=⟨gk,_,none⟩) hgk).trans hk0;rw[hA]at hW1;have HW1:=Lib.hid hW1;have HB1:=Lib.hid hb1;have s1:=hz1.lt;have s2:gk<W1.heap.size:=Nat.lt_of_lt_of_le hgk hb1.size;clear hW1 hb1 hz1 hA hk0;go_enter Tryz.func123,Tryz.ntmps123;go_wp2_with fail;rw[←HW1.out];go_region_held3 (fun W=>W.cell? ⟨w.heap.size,5,none⟩=some (.string d)∧W.cell? ⟨w.heap.size,6,none⟩=some (.string s)∧W.cell? ⟨w.heap.size,7,none⟩=some (.string off)∧W.cell? ⟨w.heap.size,8,none⟩=some (.string tim)∧W.cell? ⟨gk,ok,none⟩=some (.iface t x)) (first|go_keep) (first|fail)
 all_goals
  go_wp2_with fail;go_ret;exact⟨_,rfl,(NodeAt.subquery (b:=B) (w:=W1.alloc _) W1.heap.size (Nat.le_trans hB HB1.out.size) ((Blk.new W1 _ _).lt) d s off tim t x ((Blk.new W1 _ _).cell 0) ((Blk.new W1 _ _).cell 1) ((Blk.new W1 _ _).cell 2) ((Blk.new W1 _ _).cell 3) ((Blk.new W1 _ _).cell 4)).below (Below.refl _ _).drew,(HB1.out.alloc HB1.out.size _).drew⟩
theorem node_binary (w:World) (B:Nat) (hB:B≤w.heap.size) (o:ByteArray) (t u:TypeId) (x y:Value) (bo gi on:Bool) (card:Int) (ls inc:List ByteArray) (am ao ai al:Option Addr) (nm cm no co ni ci nl cl:Nat) (gk ok ck:Nat) (hbk:B≤gk) (hgk:gk<w.heap.size) (hk0:w.cell? ⟨gk,ok,none⟩=some (.iface t x)) (hk1:w.cell? ⟨gk,ok+1,none⟩=some (.iface u y)) (hl:StrS 0 w (.slice ao no co) ls) (hi:StrS 0 w (.slice ai ni ci) inc) (hn:ls.length≤1099511627776) (hn2:inc.length≤1099511627776):
  Calls Tryz.prog 123 #[.agg #[.int .i64 7,.int .i64 2,.string o,.string eS,.slice am nm cm,.string eS,.string eS,.string eS,.string eS,.bool bo,.bool gi,.bool on,.slice ao no co,.int .i64 card,.slice ai ni ci,.bool false,.slice al nl cl],.slice (some ⟨gk,ok,none⟩) 2 ck] w (NodePost B w {zr 7 2 with op:=o,bool:=bo,given:=gi,on:=on,mls:=ls,card:=card,inc:=inc} [.iface t x,.iface u y]):=by
 obtain⟨A,hA⟩: ∃A:Array Value,A= #[.int .i64 7,.int .i64 2,.string o,.string eS,.slice am nm cm,.string eS,.string eS,.string eS,.string eS,.bool bo,.bool gi,.bool on,.slice ao no co,.int .i64 card,.slice ai ni ci,.bool false,.slice al nl cl]:=⟨_,rfl⟩;obtain⟨W1,hW1⟩: ∃W1,W1=w.alloc (.cells A 58):=⟨_,rfl⟩;have hb1:Below w.heap.size w W1:=by rw[hW1];exact(Below.refl _ w).alloc (Nat.le_refl _) _
 have hz1:Blk W1 w.heap.size 58 A:=by rw[hW1];exact Blk.new _ _ _
 have HMM:Hid (∀W,Below w.heap.size w W→Calls Tryz.prog 105 #[.agg #[.bool gi,.bool on,.slice ao no co,.int .i64 card,.slice ai ni ci]] W (MatchingPost W gi on card ls inc)):=Lib.hid fun W hb=>tree_matching gi on card (hl.below hb) (hi.below hb) hn hn2
 have b2:W1.cell? ⟨w.heap.size,2,none⟩=some (.string o):=(hz1.cell 2).trans (by rw[hA];rfl);have b9:W1.cell? ⟨w.heap.size,9,none⟩=some (.bool bo):=(hz1.cell 9).trans (by rw[hA];rfl);have b10:W1.cell? ⟨w.heap.size,10,none⟩=some (.bool gi):=(hz1.cell 10).trans (by rw[hA];rfl);have b11:W1.cell? ⟨w.heap.size,11,none⟩=some (.bool on):=(hz1.cell 11).trans (by rw[hA];rfl);have b12:W1.cell? ⟨w.heap.size,12,none⟩=some (.slice ao no co):=(hz1.cell 12).trans (by rw[hA];rfl);have b13:W1.cell? ⟨w.heap.size,13,none⟩=some (.int .i64 card):=(hz1.cell 13).trans (by rw[hA];rfl);have b14:W1.cell? ⟨w.heap.size,14,none⟩=some (.slice ai ni ci):=(hz1.cell 14).trans (by rw[hA];rfl);have l0:W1.cell? ⟨gk,ok,none⟩=some (.iface t x):=(hb1.cell (p:=⟨gk,_,none⟩) hgk).trans hk0;have l1:W1.cell? ⟨gk,ok+1,none⟩=some (.iface u y):=(hb1.cell (p:=⟨gk,_,none⟩) hgk).trans hk1;have c2:W1.drew.cell? ⟨w.heap.size,2,none⟩=some (.string o):=b2;have c9:W1.drew.cell? ⟨w.heap.size,9,none⟩=some (.bool bo):=b9;have c10:W1.drew.cell? ⟨w.heap.size,10,none⟩=some (.bool gi):=b10;have c11:W1.drew.cell? ⟨w.heap.size,11,none⟩=some (.bool on):=b11;have c12:W1.drew.cell? ⟨w.heap.size,12,none⟩=some (.slice ao no co):=b12;have c13:W1.drew.cell? ⟨w.heap.size,13,none⟩=some (.int .i64 card):=b13;have c14:W1.drew.cell? ⟨w.heap.size,14,none⟩=some (.slice ai ni ci):=b14;have k0:W1.drew.cell? ⟨gk,ok,none⟩=some (.iface t x):=l0;have k1:W1.drew.cell? ⟨gk,ok+1,none⟩=some (.iface u y):=l1;rw[hA]at hW1;have HW1:=Lib.hid hW1;have HB1:=Lib.hid hb1;have s1:=hz1.lt;have s2:gk<W1.heap.size:=Nat.lt_of_lt_of_le hgk hb1.size;have hw0:IntKind.i64.wrap 0=0:=by decide
 have hw1:IntKind.i64.wrap 1=1:=by decide
 have hw2:IntKind.i64.wrap (2-1)=1:=by decide
 have hw3:IntKind.i64.wrap (1-1)=0:=by decide
 have HAE:=Lib.hid hA;have HZ1:=Lib.hid hz1;clear hW1 hb1 hz1 hA hk0 hk1 hl hi;have L0:=Lib.hid l0;have L1:=Lib.hid l1;go_enter Tryz.func123,Tryz.ntmps123;go_wp2_with fail;rw[←HW1.out];go_region_held3 (fun W=>W.cell? ⟨w.heap.size,2,none⟩=some (.string o)∧W.cell? ⟨w.heap.size,9,none⟩=some (.bool bo)∧W.cell? ⟨w.heap.size,10,none⟩=some (.bool gi)∧W.cell? ⟨w.heap.size,11,none⟩=some (.bool on)∧W.cell? ⟨w.heap.size,12,none⟩=some (.slice ao no co)∧W.cell? ⟨w.heap.size,13,none⟩=some (.int .i64 card)∧W.cell? ⟨w.heap.size,14,none⟩=some (.slice ai ni ci)∧W.cell? ⟨gk,ok,none⟩=some (.iface t x)∧W.cell? ⟨gk,ok+1,none⟩=some (.iface u y)) (first|go_keep) (first|(go_at_call 105;(with_reducible refine(HMM.out _ HB1.out.drew).mono ?_);rintro e WM ⟨o2,i2,rfl,h1,h2,_,hb⟩;have p2:WM.cell? ⟨w.heap.size,2,none⟩=some (.string o):=(hb.cell (p:=⟨w.heap.size,2,none⟩) HZ1.out.lt).trans ((HZ1.out.cell 2).trans (by rw[HAE.out];rfl));have p9:WM.cell? ⟨w.heap.size,9,none⟩=some (.bool bo):=(hb.cell (p:=⟨w.heap.size,9,none⟩) HZ1.out.lt).trans ((HZ1.out.cell 9).trans (by rw[HAE.out];rfl));have p10:WM.cell? ⟨w.heap.size,10,none⟩=some (.bool gi):=(hb.cell (p:=⟨w.heap.size,10,none⟩) HZ1.out.lt).trans ((HZ1.out.cell 10).trans (by rw[HAE.out];rfl));have p11:WM.cell? ⟨w.heap.size,11,none⟩=some (.bool on):=(hb.cell (p:=⟨w.heap.size,11,none⟩) HZ1.out.lt).trans ((HZ1.out.cell 11).trans (by rw[HAE.out];rfl));have p12:WM.cell? ⟨w.heap.size,12,none⟩=some (.slice ao no co):=(hb.cell (p:=⟨w.heap.size,12,none⟩) HZ1.out.lt).trans ((HZ1.out.cell 12).trans (by rw[HAE.out];rfl));have p13:WM.cell? ⟨w.heap.size,13,none⟩=some (.int .i64 card):=(hb.cell (p:=⟨w.heap.size,13,none⟩) HZ1.out.lt).trans ((HZ1.out.cell 13).trans (by rw[HAE.out];rfl));have p14:WM.cell? ⟨w.heap.size,14,none⟩=some (.slice ai ni ci):=(hb.cell (p:=⟨w.heap.size,14,none⟩) HZ1.out.lt).trans ((HZ1.out.cell 14).trans (by rw[HAE.out];rfl));have r0:WM.cell? ⟨gk,ok,none⟩=some (.iface t x):=(hb.cell (p:=⟨gk,_,none⟩) s2).trans L0.out;have r1:WM.cell? ⟨gk,ok+1,none⟩=some (.iface u y):=(hb.cell (p:=⟨gk,_,none⟩) s2).trans L1.out;have t1:w.heap.size<WM.heap.size:=Nat.lt_of_lt_of_le s1 hb.size;have t2:gk<WM.heap.size:=Nat.lt_of_lt_of_le s2 hb.size;have HBM:Hid (Below w.heap.size w WM):=Lib.hid (HB1.out.drew.trans (hb.mono HB1.out.size));obtain⟨xo,yo,zo,rfl⟩:=own_sl h1;obtain⟨xi,yi,zi,rfl⟩:=own_sl h2;have HO:=Lib.hid h1;have HI:=Lib.hid h2;simp only[matchV];clear h1 h2 hb))
 all_goals
  go_wp2_with fail;go_ret;have hle:=HB1.out.size;exact⟨_,rfl,.binary WM.heap.size (Nat.le_trans hB HBM.out.size) ((Blk.new WM _ _).lt) o t u x y bo gi on _ _ ls inc card (((StrS.of_own HO.out).lo (Nat.le_trans hB (by simpa using hle))).below ((Below.refl _ WM).alloc (Nat.le_refl _) _)) (((StrS.of_own HI.out).lo (Nat.le_trans hB (by simpa using hle))).below ((Below.refl _ WM).alloc (Nat.le_refl _) _)) ((Blk.new WM _ _).cell 0) ((Blk.new WM _ _).cell 1) ((Blk.new WM _ _).cell 2) ((Blk.new WM _ _).cell 3) ((Blk.new WM _ _).cell 4) ((Blk.new WM _ _).cell 5) ((Blk.new WM _ _).cell 6) ((Blk.new WM _ _).cell 7) ((Blk.new WM _ _).cell 8),HBM.out.alloc HBM.out.size _⟩
theorem node_aggr (w:World) (B:Nat) (hB:B≤w.heap.size) (o:ByteArray) (t:TypeId) (x:Value) (wo:Bool) (ls:List ByteArray) (am ao ai al:Option Addr) (nm cm no co ni ci nl cl:Nat) (gk ok ck:Nat) (hbk:B≤gk) (hgk:gk<w.heap.size) (hk0:w.cell? ⟨gk,ok,none⟩=some (.iface t x)) (hl:StrS 0 w (.slice al nl cl) ls) (hn:ls.length≤1099511627776):
  Calls Tryz.prog 123 #[.agg #[.int .i64 9,.int .i64 1,.string o,.string eS,.slice am nm cm,.string eS,.string eS,.string eS,.string eS,.bool false,.bool false,.bool false,.slice ao no co,.int .i64 0,.slice ai ni ci,.bool wo,.slice al nl cl],.slice (some ⟨gk,ok,none⟩) 1 ck] w (NodePost B w {zr 9 1 with op:=o,without:=wo,labels:=ls} [.iface t x]):=by
 obtain⟨A,hA⟩: ∃A:Array Value,A= #[.int .i64 9,.int .i64 1,.string o,.string eS,.slice am nm cm,.string eS,.string eS,.string eS,.string eS,.bool false,.bool false,.bool false,.slice ao no co,.int .i64 0,.slice ai ni ci,.bool wo,.slice al nl cl]:=⟨_,rfl⟩;obtain⟨W1,hW1⟩: ∃W1,W1=w.alloc (.cells A 58):=⟨_,rfl⟩;have hb1:Below w.heap.size w W1:=by rw[hW1];exact(Below.refl _ w).alloc (Nat.le_refl _) _
 have hz1:Blk W1 w.heap.size 58 A:=by rw[hW1];exact Blk.new _ _ _
 have HMM:Hid (∀W,Below w.heap.size w W→Calls Tryz.prog 106 #[.slice al nl cl] W (CloneS W ls)):=Lib.hid fun W hb=>clone_str (hl.below hb) hn
 have b2:W1.cell? ⟨w.heap.size,2,none⟩=some (.string o):=(hz1.cell 2).trans (by rw[hA];rfl);have b15:W1.cell? ⟨w.heap.size,15,none⟩=some (.bool wo):=(hz1.cell 15).trans (by rw[hA];rfl);have b16:W1.cell? ⟨w.heap.size,16,none⟩=some (.slice al nl cl):=(hz1.cell 16).trans (by rw[hA];rfl);have l0:W1.cell? ⟨gk,ok,none⟩=some (.iface t x):=(hb1.cell (p:=⟨gk,_,none⟩) hgk).trans hk0;have c2:W1.drew.cell? ⟨w.heap.size,2,none⟩=some (.string o):=b2;have c15:W1.drew.cell? ⟨w.heap.size,15,none⟩=some (.bool wo):=b15;have c16:W1.drew.cell? ⟨w.heap.size,16,none⟩=some (.slice al nl cl):=b16;have k0:W1.drew.cell? ⟨gk,ok,none⟩=some (.iface t x):=l0;rw[hA]at hW1;have HW1:=Lib.hid hW1;have HB1:=Lib.hid hb1;have s1:=hz1.lt;have s2:gk<W1.heap.size:=Nat.lt_of_lt_of_le hgk hb1.size;have hw0:IntKind.i64.wrap 0=0:=by decide
 have hw1:IntKind.i64.wrap 1=1:=by decide
 have hw2:IntKind.i64.wrap (2-1)=1:=by decide
 have hw3:IntKind.i64.wrap (1-1)=0:=by decide
 have HAE:=Lib.hid hA;have HZ1:=Lib.hid hz1;clear hW1 hb1 hz1 hA hk0 hl;have L0:=Lib.hid l0;go_enter Tryz.func123,Tryz.ntmps123;go_wp2_with fail;rw[←HW1.out];go_region_held3 (fun W=>W.cell? ⟨w.heap.size,2,none⟩=some (.string o)∧W.cell? ⟨w.heap.size,15,none⟩=some (.bool wo)∧W.cell? ⟨w.heap.size,16,none⟩=some (.slice al nl cl)∧W.cell? ⟨gk,ok,none⟩=some (.iface t x)) (first|go_keep) (first|(go_at_call 106;(with_reducible refine(HMM.out _ HB1.out.drew).mono ?_);rintro e WM ⟨o2,rfl,h1,hb⟩;have p2:WM.cell? ⟨w.heap.size,2,none⟩=some (.string o):=(hb.cell (p:=⟨w.heap.size,2,none⟩) HZ1.out.lt).trans ((HZ1.out.cell 2).trans (by rw[HAE.out];rfl));have p15:WM.cell? ⟨w.heap.size,15,none⟩=some (.bool wo):=(hb.cell (p:=⟨w.heap.size,15,none⟩) HZ1.out.lt).trans ((HZ1.out.cell 15).trans (by rw[HAE.out];rfl));have p16:WM.cell? ⟨w.heap.size,16,none⟩=some (.slice al nl cl):=(hb.cell (p:=⟨w.heap.size,16,none⟩) HZ1.out.lt).trans ((HZ1.out.cell 16).trans (by rw[HAE.out];rfl));have r0:WM.cell? ⟨gk,ok,none⟩=some (.iface t x):=(hb.cell (p:=⟨gk,_,none⟩) s2).trans L0.out;have t1:w.heap.size<WM.heap.size:=Nat.lt_of_lt_of_le s1 hb.size;have t2:gk<WM.heap.size:=Nat.lt_of_lt_of_le s2 hb.size;have HBM:Hid (Below w.heap.size w WM):=Lib.hid (HB1.out.drew.trans (hb.mono HB1.out.size));obtain⟨xo,yo,zo,rfl⟩:=own_sl h1;have HO:=Lib.hid h1;clear h1 hb))
 all_goals
  go_wp2_with fail;go_ret;have hle:=HB1.out.size;exact⟨_,rfl,.aggr WM.heap.size (Nat.le_trans hB HBM.out.size) ((Blk.new WM _ _).lt) o t x wo _ ls (((StrS.of_own HO.out).lo (Nat.le_trans hB (by simpa using hle))).below ((Below.refl _ WM).alloc (Nat.le_refl _) _)) ((Blk.new WM _ _).cell 0) ((Blk.new WM _ _).cell 1) ((Blk.new WM _ _).cell 2) ((Blk.new WM _ _).cell 3) ((Blk.new WM _ _).cell 4),HBM.out.alloc HBM.out.size _⟩
theorem node_aggr2 (w:World) (B:Nat) (hB:B≤w.heap.size) (o:ByteArray) (t u:TypeId) (x y:Value) (wo:Bool) (ls:List ByteArray) (am ao ai al:Option Addr) (nm cm no co ni ci nl cl:Nat) (gk ok ck:Nat) (hbk:B≤gk) (hgk:gk<w.heap.size) (hk0:w.cell? ⟨gk,ok,none⟩=some (.iface u y)) (hk1:w.cell? ⟨gk,ok+1,none⟩=some (.iface t x)) (hl:StrS 0 w (.slice al nl cl) ls) (hn:ls.length≤1099511627776):
  Calls Tryz.prog 123 #[.agg #[.int .i64 9,.int .i64 2,.string o,.string eS,.slice am nm cm,.string eS,.string eS,.string eS,.string eS,.bool false,.bool false,.bool false,.slice ao no co,.int .i64 0,.slice ai ni ci,.bool wo,.slice al nl cl],.slice (some ⟨gk,ok,none⟩) 2 ck] w (NodePost B w {zr 9 2 with op:=o,without:=wo,labels:=ls} [.iface u y,.iface t x]):=by
 obtain⟨A,hA⟩: ∃A:Array Value,A= #[.int .i64 9,.int .i64 2,.string o,.string eS,.slice am nm cm,.string eS,.string eS,.string eS,.string eS,.bool false,.bool false,.bool false,.slice ao no co,.int .i64 0,.slice ai ni ci,.bool wo,.slice al nl cl]:=⟨_,rfl⟩;obtain⟨W1,hW1⟩: ∃W1,W1=w.alloc (.cells A 58):=⟨_,rfl⟩;have hb1:Below w.heap.size w W1:=by rw[hW1];exact(Below.refl _ w).alloc (Nat.le_refl _) _
 have hz1:Blk W1 w.heap.size 58 A:=by rw[hW1];exact Blk.new _ _ _
 have HMM:Hid (∀W,Below w.heap.size w W→Calls Tryz.prog 106 #[.slice al nl cl] W (CloneS W ls)):=Lib.hid fun W hb=>clone_str (hl.below hb) hn
 have b2:W1.cell? ⟨w.heap.size,2,none⟩=some (.string o):=(hz1.cell 2).trans (by rw[hA];rfl);have b15:W1.cell? ⟨w.heap.size,15,none⟩=some (.bool wo):=(hz1.cell 15).trans (by rw[hA];rfl);have b16:W1.cell? ⟨w.heap.size,16,none⟩=some (.slice al nl cl):=(hz1.cell 16).trans (by rw[hA];rfl);have l0:W1.cell? ⟨gk,ok,none⟩=some (.iface u y):=(hb1.cell (p:=⟨gk,_,none⟩) hgk).trans hk0;have l1:W1.cell? ⟨gk,ok+1,none⟩=some (.iface t x):=(hb1.cell (p:=⟨gk,_,none⟩) hgk).trans hk1;have c2:W1.drew.cell? ⟨w.heap.size,2,none⟩=some (.string o):=b2;have c15:W1.drew.cell? ⟨w.heap.size,15,none⟩=some (.bool wo):=b15;have c16:W1.drew.cell? ⟨w.heap.size,16,none⟩=some (.slice al nl cl):=b16;have k0:W1.drew.cell? ⟨gk,ok,none⟩=some (.iface u y):=l0;have k1:W1.drew.cell? ⟨gk,ok+1,none⟩=some (.iface t x):=l1;rw[hA]at hW1;have HW1:=Lib.hid hW1;have HB1:=Lib.hid hb1;have s1:=hz1.lt;have s2:gk<W1.heap.size:=Nat.lt_of_lt_of_le hgk hb1.size;have hw0:IntKind.i64.wrap 0=0:=by decide
 have hw1:IntKind.i64.wrap 1=1:=by decide
 have hw2:IntKind.i64.wrap (2-1)=1:=by decide
 have hw3:IntKind.i64.wrap (1-1)=0:=by decide
 have HAE:=Lib.hid hA;have HZ1:=Lib.hid hz1;clear hW1 hb1 hz1 hA hk0 hk1 hl;have L0:=Lib.hid l0;have L1:=Lib.hid l1;go_enter Tryz.func123,Tryz.ntmps123;go_wp2_with fail;rw[←HW1.out];go_region_held3 (fun W=>W.cell? ⟨w.heap.size,2,none⟩=some (.string o)∧W.cell? ⟨w.heap.size,15,none⟩=some (.bool wo)∧W.cell? ⟨w.heap.size,16,none⟩=some (.slice al nl cl)∧W.cell? ⟨gk,ok,none⟩=some (.iface u y)∧W.cell? ⟨gk,ok+1,none⟩=some (.iface t x)) (first|go_keep) (first|(go_at_call 106;(with_reducible refine(HMM.out _ HB1.out.drew).mono ?_);rintro e WM ⟨o2,rfl,h1,hb⟩;have p2:WM.cell? ⟨w.heap.size,2,none⟩=some (.string o):=(hb.cell (p:=⟨w.heap.size,2,none⟩) HZ1.out.lt).trans ((HZ1.out.cell 2).trans (by rw[HAE.out];rfl));have p15:WM.cell? ⟨w.heap.size,15,none⟩=some (.bool wo):=(hb.cell (p:=⟨w.heap.size,15,none⟩) HZ1.out.lt).trans ((HZ1.out.cell 15).trans (by rw[HAE.out];rfl));have p16:WM.cell? ⟨w.heap.size,16,none⟩=some (.slice al nl cl):=(hb.cell (p:=⟨w.heap.size,16,none⟩) HZ1.out.lt).trans ((HZ1.out.cell 16).trans (by rw[HAE.out];rfl));have r0:WM.cell? ⟨gk,ok,none⟩=some (.iface u y):=(hb.cell (p:=⟨gk,_,none⟩) s2).trans L0.out;have r1:WM.cell? ⟨gk,ok+1,none⟩=some (.iface t x):=(hb.cell (p:=⟨gk,_,none⟩) s2).trans L1.out;have t1:w.heap.size<WM.heap.size:=Nat.lt_of_lt_of_le s1 hb.size;have t2:gk<WM.heap.size:=Nat.lt_of_lt_of_le s2 hb.size;have HBM:Hid (Below w.heap.size w WM):=Lib.hid (HB1.out.drew.trans (hb.mono HB1.out.size));obtain⟨xo,yo,zo,rfl⟩:=own_sl h1;have HO:=Lib.hid h1;clear h1 hb))
 all_goals
  go_wp2_with fail;go_ret;have hle:=HB1.out.size;exact⟨_,rfl,.aggr2 WM.heap.size (Nat.le_trans hB HBM.out.size) ((Blk.new WM _ _).lt) o t u x y wo _ ls (((StrS.of_own HO.out).lo (Nat.le_trans hB (by simpa using hle))).below ((Below.refl _ WM).alloc (Nat.le_refl _) _)) ((Blk.new WM _ _).cell 0) ((Blk.new WM _ _).cell 1) ((Blk.new WM _ _).cell 2) ((Blk.new WM _ _).cell 3) ((Blk.new WM _ _).cell 4),HBM.out.alloc HBM.out.size _⟩
theorem sound_parts {r:PR} (h:soundRow r=true):kidsB r.kind r.kids=true∧kind9 r.kind∧unP r=zr r.kind 0:=by
 unfold soundRow at h;simp only[Bool.and_eq_true]at h;have h9:=kidsB_kind h.1.1;exact⟨h.1.1,h9,(unused_iff h9).1 h.1.2⟩
theorem exp_at {b:Nat} {w:World} {v:Value} {ks:List Value} (h:ExpS b w v ks): ∃ao c,v= .slice ao ks.length c:=by
 obtain⟨ao,c,h1,_⟩:=h;exact⟨ao,c,h1⟩
theorem exp_one {b:Nat} {w:World} {v x:Value} (h:ExpS b w v [x]): ∃g o c,v= .slice (some ⟨g,o,none⟩) 1 c∧b≤g∧g<w.heap.size∧w.cell? ⟨g,o,none⟩=some x:=by
 obtain⟨ao,c,rfl,h2⟩:=h;obtain⟨g,o,rfl,a,l,u⟩:=h2 0 (by simp);exact⟨g,o,c,rfl,a,l,u⟩
theorem exp_two {b:Nat} {w:World} {v x y:Value} (h:ExpS b w v [x,y]): ∃g o c,v= .slice (some ⟨g,o,none⟩) 2 c∧b≤g∧g<w.heap.size∧w.cell? ⟨g,o,none⟩=some x∧w.cell? ⟨g,o+1,none⟩=some y:=by
 obtain⟨ao,c,rfl,h2⟩:=h;obtain⟨g,o,rfl,a,l,u⟩:=h2 0 (by simp);obtain⟨g',o',e,_,_,u'⟩:=h2 1 (by simp);cases e;exact⟨g,o,c,rfl,a,l,u,u'⟩
theorem len_one {ks:List Value} (h:ks.length=1): ∃x,ks=[x]:=List.length_eq_one_iff.1 h
theorem len_two {ks:List Value} (h:ks.length=2): ∃x y,ks=[x,y]:=by
 match ks,h with
 |[x,y],_=>exact⟨x,y,rfl⟩
theorem tree_node {B:Nat} {w:World} {r:PR} {m o i l kv:Value} {ks:List Value} (hB:B≤w.heap.size) (h:RowLs 0 w r m o i l) (hl:LenOK r) (hs:soundRow r=true) (h4:r.kind≠4) (hk:ExpS B w kv ks) (hn:ks.length=nk r) (hi: ∀v∈ks,∃t x,v= .iface t x):
  Calls Tryz.prog 123 #[rowV r m o i l,kv] w (NodePost B w r ks):=by
 obtain⟨hkb,h9,hu⟩:=sound_parts hs;obtain⟨hm,ho,hii,hll⟩:=h;obtain⟨am,cm,rfl,_⟩:=id hm;obtain⟨ao,co,rfl,_⟩:=id ho;obtain⟨ai,ci,rfl,_⟩:=id hii;obtain⟨al,cl,rfl,_⟩:=id hll;obtain⟨l1,l2,l3,l4⟩:=hl;have hkn:r.kids=(nk r:Int):=by
  have h2:0≤r.kids:=by
   unfold kidsB at hkb
   repeat' split at hkb
   all_goals simp at hkb
   all_goals omega
  unfold nk;omega
 obtain⟨kind,kids,op,text,ms,dur,step,off,tim,bool,given,on,mls,card,inc,without,labels⟩:=r;simp only at*
 rcases h9 with rfl|rfl|rfl|rfl|rfl|rfl|rfl|rfl|rfl
 ·simp[unP,zr]at hu;simp[kidsB]at hkb;obtain⟨rfl,rfl,rfl,rfl,rfl,rfl,rfl,rfl,rfl,rfl,rfl,rfl,rfl,rfl⟩:=hu;subst hkb;obtain rfl:ks=[]:=List.length_eq_zero_iff.1 (by simpa [nk]using hn);exact node_number w B hB text kv am ao ai al _ cm _ co _ ci _ cl
 ·simp[unP,zr]at hu;simp[kidsB]at hkb;obtain⟨rfl,rfl,rfl,rfl,rfl,rfl,rfl,rfl,rfl,rfl,rfl,rfl,rfl,rfl⟩:=hu;subst hkb;obtain rfl:ks=[]:=List.length_eq_zero_iff.1 (by simpa [nk]using hn);exact node_text w B hB text kv am ao ai al _ cm _ co _ ci _ cl
 ·simp[unP,zr]at hu;simp[kidsB]at hkb;obtain⟨rfl,rfl,rfl,rfl,rfl,rfl,rfl,rfl,rfl,rfl,rfl⟩:=hu;subst hkb;obtain rfl:ks=[]:=List.length_eq_zero_iff.1 (by simpa [nk]using hn);exact node_selector w B hB text off tim ms kv am ao ai al _ cm _ co _ ci _ cl hm l1
 ·exact absurd rfl h4
 ·simp[unP,zr]at hu;simp[kidsB]at hkb;obtain⟨rfl,rfl,rfl,rfl,rfl,rfl,rfl,rfl,rfl,rfl,rfl⟩:=hu;subst hkb;obtain⟨z,rfl⟩:=len_one (by simpa [nk]using hn);obtain⟨t,x,rfl⟩:=hi z (by simp);obtain⟨gk,ok,ck,rfl,hbk,hgk,hk0⟩:=exp_one hk;exact node_subquery w B hB dur step off tim t x am ao ai al _ cm _ co _ ci _ cl gk ok ck hbk hgk hk0
 ·simp[unP,zr]at hu;simp[kidsB]at hkb;obtain⟨rfl,rfl,rfl,rfl,rfl,rfl,rfl,rfl,rfl,rfl,rfl,rfl,rfl,rfl⟩:=hu;subst hkb;obtain⟨z,rfl⟩:=len_one (by simpa [nk]using hn);obtain⟨t,x,rfl⟩:=hi z (by simp);obtain⟨gk,ok,ck,rfl,hbk,hgk,hk0⟩:=exp_one hk;exact node_unary w B hB op t x am ao ai al _ cm _ co _ ci _ cl gk ok ck hbk hgk hk0
 ·simp[unP,zr]at hu;simp[kidsB]at hkb;obtain⟨rfl,rfl,rfl,rfl,rfl,rfl,rfl,rfl⟩:=hu;subst hkb;obtain⟨z,z2,rfl⟩:=len_two (by simpa [nk]using hn);obtain⟨t,x,rfl⟩:=hi z (by simp);obtain⟨u,y,rfl⟩:=hi z2 (by simp);obtain⟨gk,ok,ck,rfl,hbk,hgk,hk0,hk1⟩:=exp_two hk;exact node_binary w B hB op t u x y bool given on card mls inc am ao ai al _ cm _ co _ ci _ cl gk ok ck hbk hgk hk0 hk1 ho hii l2 l3
 ·simp[unP,zr]at hu;simp[kidsB]at hkb;obtain⟨rfl,rfl,rfl,rfl,rfl,rfl,rfl,rfl,rfl,rfl,rfl,rfl,rfl,rfl⟩:=hu;obtain⟨ak,ck,rfl⟩:=exp_at hk;rw[hkn,←hn];exact node_call w B hB op ak ck ks hk am ao ai al _ cm _ co _ ci _ cl
 ·simp[unP,zr]at hu;simp[kidsB]at hkb;obtain⟨rfl,rfl,rfl,rfl,rfl,rfl,rfl,rfl,rfl,rfl,rfl,rfl⟩:=hu;rcases hkb with rfl|rfl
  ·obtain⟨z,rfl⟩:=len_one (by simpa [nk]using hn);obtain⟨t,x,rfl⟩:=hi z (by simp);obtain⟨gk,ok,ck,rfl,hbk,hgk,hk0⟩:=exp_one hk;exact node_aggr w B hB op t x without labels am ao ai al _ cm _ co _ ci _ cl gk ok ck hbk hgk hk0 hll l4
  ·obtain⟨z,z2,rfl⟩:=len_two (by simpa [nk]using hn);obtain⟨t,x,rfl⟩:=hi z (by simp);obtain⟨u,y,rfl⟩:=hi z2 (by simp);obtain⟨gk,ok,ck,rfl,hbk,hgk,hk0,hk1⟩:=exp_two hk;exact node_aggr2 w B hB op u t y x without labels am ao ai al _ cm _ co _ ci _ cl gk ok ck hbk hgk hk0 hk1 hll l4
theorem norm_all : ∀ s : List Nat, (∀ c ∈ s.tail, 0 < c) → ∀ c ∈ norm s, 0 < c
  | [], _ => by rw [norm_nil]; intro c h; cases h
  | [0], _ => by rw [norm_one]; intro c h; cases h
  | 0 :: c :: s, h => by
    rw[norm_zero]
    exact norm_all ((c-1)::s) fun x hx=>h x (List.mem_cons_of_mem _ hx)
  | (c + 1) :: s, h => by
    rw[norm_pos s (by omega)]
    intro x hx
    rcases List.mem_cons.1 hx with rfl|hx
    · omega
    · exact h x hx
termination_by s=>s.length
def intC (n:Nat):Value:=.int .i64 (n:Int)
def OpenS (b:Nat) (W:World) (v:Value) (s:List Nat):Prop:=W.ownsRow b 3 1 v s.length (s.reverse.map intC)
theorem OpenS.nil (b:Nat) (W:World):OpenS b W (.slice none 0 0) []:=World.ownsRow_nil _ _ _ _
theorem own_pop {W:World} {b n c g:Nat} {e:TypeId} {xs:List Value} {u:Value} (h:W.ownsRow b e 1 (.slice (some ⟨g,0,none⟩) (n+1) c) (n+1) (xs++[u])):W.ownsRow b e 1 (.slice (some ⟨g,0,none⟩) n c) n xs:=by
 have hl:xs.length=n:=by have:=h.1;simp at this;omega
 refine⟨by omega,?_⟩;rcases h.2 with⟨hv,_⟩|⟨g',cap,cur,hv,h1,h2,h3,h4,h5,h6⟩
 ·cases hv
 ·injection hv with e1 e2 e3
  injection e1 with e1
  injection e1 with e1 _ _
  subst e1 e3;refine .inr ⟨g,c,cur,rfl,h1,h2,by omega,h4,h5,?_⟩;rw[Nat.mul_one]at h6 ⊢
  have:=congrArg (List.take n) h6;rw[List.take_take,Nat.min_eq_left (by omega)]at this;rw[this,List.take_append_of_le_length (by omega),List.take_of_length_le (by omega)]
theorem OpenS.form {b:Nat} {W:World} {v:Value} {s:List Nat} (h:OpenS b W v s):(v= .slice none 0 0∧s=[])∨ ∃g c,v= .slice (some ⟨g,0,none⟩) s.length c∧b≤g∧g<W.heap.size:=by
 rcases h.2 with⟨hv,hn⟩|⟨g,cap,cur,hv,h1,h2,_⟩
 ·exact .inl ⟨hv,List.length_eq_zero_iff.1 hn⟩
 ·exact .inr ⟨g,cap,hv,h1,(Array.getElem?_eq_some_iff.1 h2).1⟩
theorem OpenS.top {b:Nat} {W:World} {g c x:Nat} {t:List Nat} {n:Nat} (h:OpenS b W (.slice (some ⟨g,0,none⟩) n c) (x::t)):W.cell? ⟨g,t.length,none⟩=some (.int .i64 (x:Int))∧W.frozen? ⟨g,t.length,none⟩=false:=by
 have h1:=h.2;obtain rfl:n=(x::t).length:=by
  rcases h.2 with⟨hv,_⟩|⟨g',cap,cur,hv,_⟩
  ·cases hv
  ·injection hv
 refine⟨?_,World.ownsRow.frozenAt h _⟩;rw[World.ownsRow.cellAt h t.length (by simp)];simp[intC]
theorem OpenS.cap {b:Nat} {W:World} {g c:Nat} {s:List Nat} {n:Nat} (h:OpenS b W (.slice (some ⟨g,0,none⟩) n c) s):n≤c:=by
 rcases h.2 with⟨hv,_⟩|⟨g',cap,cur,hv,_,_,h3,_⟩
 ·cases hv
 ·injection hv with e1 e2 e3
  omega
theorem OpenS.pop {b:Nat} {W:World} {g c x:Nat} {t:List Nat} {n:Nat} (h:OpenS b W (.slice (some ⟨g,0,none⟩) (n+1) c) (x::t)) (hn:n=t.length):OpenS b W (.slice (some ⟨g,0,none⟩) n c) t:=by
 subst hn;unfold OpenS at h ⊢
 rw[List.reverse_cons,List.map_append,List.length_cons]at h;exact own_pop h
theorem OpenS.dec {b:Nat} {W:World} {g c x:Nat} {t:List Nat} {n:Nat} (h:OpenS b W (.slice (some ⟨g,0,none⟩) n c) (x::t)) (y:Nat):OpenS b (W.setCell ⟨g,t.length,none⟩ (.int .i64 (y:Int))) (.slice (some ⟨g,0,none⟩) n c) (y::t):=by
 obtain rfl:n=(x::t).length:=by
  rcases h.2 with⟨hv,_⟩|⟨g',cap,cur,hv,_⟩
  ·cases hv
  ·injection hv
 have h2:=(World.ownsRow.stored h t.length (.int .i64 (y:Int))).1;have e:((x::t).reverse.map intC).set t.length (.int .i64 (y:Int))=(y::t).reverse.map intC:=by
  rw[List.reverse_cons,List.map_append,List.reverse_cons,List.map_append,List.set_append_right _ _ (by simp)];simp[intC]
 rw[e]at h2;exact h2
theorem OpenS.below {b:Nat} {W W':World} {v:Value} {s:List Nat} (h:OpenS b W v s) (hb:Below W.heap.size W W'):OpenS b W' v s:=own_belowE h hb
theorem norm_le {m : Nat} : ∀ s : List Nat, (∀ c ∈ s, c ≤ m) → ∀ c ∈ norm s, c ≤ m
  | [], _ => by rw [norm_nil]; intro c h; cases h
  | [0], _ => by rw [norm_one]; intro c h; cases h
  | 0 :: c :: s, h => by
    rw[norm_zero]
    refine norm_le ((c-1)::s) fun x hx=>?_
    rcases List.mem_cons.1 hx with rfl|hx
    · have := h c (by simp); omega
    · exact h x (by simp [hx])
  | (c + 1) :: s, h => by rw [norm_pos s (by omega)]; exact h
termination_by s=>s.length
theorem OpenS.sl {b:Nat} {W:World} {v:Value} {s:List Nat} (h:OpenS b W v s): ∃a c,v= .slice a s.length c:=by
 rcases h.form with⟨rfl,rfl⟩|⟨g,c,rfl,_⟩
 ·exact⟨none,0,rfl⟩
 ·exact⟨_,c,rfl⟩
theorem OpenS.push {b:Nat} {W:World} {v:Value} {s:List Nat} {k:Nat} (h:W.ownsRow b 3 1 v (s.length+1) (s.reverse.map intC++[.int .i64 (k:Int)])):OpenS b W v (k::s):=by
 unfold OpenS;rw[List.reverse_cons,List.map_append,List.length_cons];exact h
def sliceLen:Value→Nat
 | .slice _ n _=>n
 |_=>0
theorem info_int:(Tryz.prog.info? 3).map (fun i=>(i.zero,i.size,i.bytes))=some (some (.int .i64 0),1,8):=by kernel_rfl
end Go.Proofs.YtibcjfjacielbaaGreatDoor
