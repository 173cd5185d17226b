import Derived.Test.YtibcjfjacielbaaGreatDoorH07
import Derived.Test.YtibcjfjacielbaaGreatDoorH19
/- Part of the proof of YtibcjfjacielbaaGreatDoorCardH: TrR TrRa TrRd. -/
set_option maxRecDepth 100000
set_option maxHeartbeats 4000000
set_option linter.unusedVariables false
set_option linter.unusedSimpArgs false
namespace Go.Proofs.YtibcjfjacielbaaGreatDoor
open Go.RowKit
def unP (r:PR):PR:=
 let r:={r with kids:=0}
 if r.kind=1∨r.kind=2 then {r with text:=eS}
 else if r.kind=3 then {r with text:=eS,ms:=[],off:=eS,tim:=eS}
 else if r.kind=4 then {r with dur:=eS}
 else if r.kind=5 then {r with dur:=eS,step:=eS,off:=eS,tim:=eS}
 else if r.kind=6∨r.kind=8 then {r with op:=eS}
 else if r.kind=7 then {r with op:=eS,bool:=false,given:=false,on:=false,mls:=[],card:=0,inc:=[]}
 else if r.kind=9 then {r with op:=eS,without:=false,labels:=[]}
 else r
def RowAt (w:World) (r:PR) (e:Ending) (w':World):Prop:=
 ∃m o i l,e= .returned (rowV r m o i l)∧RowLs 0 w' r m o i l∧Below w.heap.size w w'
theorem strS_none (b:Nat) (w:World):StrS b w (.slice none 0 0) []:=⟨none,0,rfl,fun j h=>absurd h (by simp)⟩
theorem matS_none (b:Nat) (w:World):MatS b w (.slice none 0 0) []:=⟨none,0,rfl,fun j h=>absurd h (by simp)⟩
theorem blk_new2 (w:World) (A:Obj) (Z:Array Value) (t:TypeId):Blk ((w.alloc A).alloc (.cells Z t)) (w.heap.size+1) t Z:=by
 have:=Blk.new (w.alloc A) t Z;simpa using this
theorem row_at {w:World} {A:Obj} {Z:Array Value} {t:TypeId} {W':World} {r:PR} {m o i l:Value} {v:Value} (h:RowLs 0 w r m o i l) (hg:((w.alloc A).alloc (.cells Z t)).grownBy W' (some (w.heap.size+1))) (hv:v= .agg (rowA r m o i l)):
  RowAt w r (.returned v) W':=by
 subst hv;have hb2:Below w.heap.size w ((w.alloc A).alloc (.cells Z t)):=((Below.refl _ w).alloc (Nat.le_refl _) _).alloc (by simp) _;have hb:=below_grow hb2 hg (by simp;omega) (by omega);exact⟨m,o,i,l,rfl,h.below hb,hb⟩
theorem unused_1 (w:World) (kids:Int) (op text dur step off tim:ByteArray) (bool given on without:Bool) (card:Int) (ms:List PM) (mls inc labels:List ByteArray) (am ao ai al:Option Addr) (nm cm no co ni ci nl cl:Nat)
  (h:RowLs 0 w ⟨1,kids,op,text,ms,dur,step,off,tim,bool,given,on,mls,card,inc,without,labels⟩ (.slice am nm cm) (.slice ao no co) (.slice ai ni ci) (.slice al nl cl)):
  Calls Tryz.prog 170 #[.agg #[.int .i64 1,.int .i64 kids,.string op,.string text,.slice am nm cm,.string dur,.string step,.string off,.string tim,.bool bool,.bool given,.bool on,.slice ao no co,.int .i64 card,.slice ai ni ci,.bool without,.slice al nl cl]] w (RowAt w (unP ⟨1,kids,op,text,ms,dur,step,off,tim,bool,given,on,mls,card,inc,without,labels⟩)):=by
 have HL:=Lib.hid h;clear h;go_enter Tryz.func170,Tryz.ntmps170;go_wp2_with (refine wpList_store_blk rfl 58 (.tmp 2) (.tmp 40) rfl (w.heap.size+1) _ rfl rfl (blk_new2 _ _ _ _) info_row rfl rfl ?_);intro W' hz hgr;go_wp2_with fail;exact bodyPost_ret (results_blk Tryz.results170 rfl hz Tryz.underlying58 info_row) rfl (row_at (r:=unP ⟨1,kids,op,text,ms,dur,step,off,tim,bool,given,on,mls,card,inc,without,labels⟩) (m:=(.slice am nm cm)) (o:=(.slice ao no co)) (i:=(.slice ai ni ci)) (l:=(.slice al nl cl)) (by simp only[unP,RowLs];simp;exact⟨HL.out.1,HL.out.2.1,HL.out.2.2.1,HL.out.2.2.2⟩) hgr (by simp[unP,rowA,eS]))
theorem unused_2 (w:World) (kids:Int) (op text dur step off tim:ByteArray) (bool given on without:Bool) (card:Int) (ms:List PM) (mls inc labels:List ByteArray) (am ao ai al:Option Addr) (nm cm no co ni ci nl cl:Nat)
  (h:RowLs 0 w ⟨2,kids,op,text,ms,dur,step,off,tim,bool,given,on,mls,card,inc,without,labels⟩ (.slice am nm cm) (.slice ao no co) (.slice ai ni ci) (.slice al nl cl)):
  Calls Tryz.prog 170 #[.agg #[.int .i64 2,.int .i64 kids,.string op,.string text,.slice am nm cm,.string dur,.string step,.string off,.string tim,.bool bool,.bool given,.bool on,.slice ao no co,.int .i64 card,.slice ai ni ci,.bool without,.slice al nl cl]] w (RowAt w (unP ⟨2,kids,op,text,ms,dur,step,off,tim,bool,given,on,mls,card,inc,without,labels⟩)):=by
 have HL:=Lib.hid h;clear h;go_enter Tryz.func170,Tryz.ntmps170;go_wp2_with (refine wpList_store_blk rfl 58 (.tmp 2) (.tmp 40) rfl (w.heap.size+1) _ rfl rfl (blk_new2 _ _ _ _) info_row rfl rfl ?_);intro W' hz hgr;go_wp2_with fail;exact bodyPost_ret (results_blk Tryz.results170 rfl hz Tryz.underlying58 info_row) rfl (row_at (r:=unP ⟨2,kids,op,text,ms,dur,step,off,tim,bool,given,on,mls,card,inc,without,labels⟩) (m:=(.slice am nm cm)) (o:=(.slice ao no co)) (i:=(.slice ai ni ci)) (l:=(.slice al nl cl)) (by simp only[unP,RowLs];simp;exact⟨HL.out.1,HL.out.2.1,HL.out.2.2.1,HL.out.2.2.2⟩) hgr (by simp[unP,rowA,eS]))
theorem unused_3 (w:World) (kids:Int) (op text dur step off tim:ByteArray) (bool given on without:Bool) (card:Int) (ms:List PM) (mls inc labels:List ByteArray) (am ao ai al:Option Addr) (nm cm no co ni ci nl cl:Nat)
  (h:RowLs 0 w ⟨3,kids,op,text,ms,dur,step,off,tim,bool,given,on,mls,card,inc,without,labels⟩ (.slice am nm cm) (.slice ao no co) (.slice ai ni ci) (.slice al nl cl)):
  Calls Tryz.prog 170 #[.agg #[.int .i64 3,.int .i64 kids,.string op,.string text,.slice am nm cm,.string dur,.string step,.string off,.string tim,.bool bool,.bool given,.bool on,.slice ao no co,.int .i64 card,.slice ai ni ci,.bool without,.slice al nl cl]] w (RowAt w (unP ⟨3,kids,op,text,ms,dur,step,off,tim,bool,given,on,mls,card,inc,without,labels⟩)):=by
 have HL:=Lib.hid h;clear h;go_enter Tryz.func170,Tryz.ntmps170;go_wp2_with (refine wpList_store_blk rfl 58 (.tmp 2) (.tmp 40) rfl (w.heap.size+1) _ rfl rfl (blk_new2 _ _ _ _) info_row rfl rfl ?_);intro W' hz hgr;go_wp2_with fail;exact bodyPost_ret (results_blk Tryz.results170 rfl hz Tryz.underlying58 info_row) rfl (row_at (r:=unP ⟨3,kids,op,text,ms,dur,step,off,tim,bool,given,on,mls,card,inc,without,labels⟩) (m:=(.slice none 0 0)) (o:=(.slice ao no co)) (i:=(.slice ai ni ci)) (l:=(.slice al nl cl)) (by simp only[unP,RowLs];simp;exact⟨matS_none 0 w,HL.out.2.1,HL.out.2.2.1,HL.out.2.2.2⟩) hgr (by simp[unP,rowA,eS]))
theorem unused_o (w:World) (k:Int) (h1: ¬k=1) (h2: ¬k=2) (h3: ¬k=3) (h4: ¬k=4) (h5: ¬k=5) (h6: ¬k=6) (h7: ¬k=7) (h8: ¬k=8) (h9: ¬k=9) (kids:Int) (op text dur step off tim:ByteArray) (bool given on without:Bool) (card:Int) (ms:List PM) (mls inc labels:List ByteArray) (am ao ai al:Option Addr) (nm cm no co ni ci nl cl:Nat)
  (h:RowLs 0 w ⟨k,kids,op,text,ms,dur,step,off,tim,bool,given,on,mls,card,inc,without,labels⟩ (.slice am nm cm) (.slice ao no co) (.slice ai ni ci) (.slice al nl cl)):
  Calls Tryz.prog 170 #[.agg #[.int .i64 k,.int .i64 kids,.string op,.string text,.slice am nm cm,.string dur,.string step,.string off,.string tim,.bool bool,.bool given,.bool on,.slice ao no co,.int .i64 card,.slice ai ni ci,.bool without,.slice al nl cl]] w (RowAt w (unP ⟨k,kids,op,text,ms,dur,step,off,tim,bool,given,on,mls,card,inc,without,labels⟩)):=by
 have HL:=Lib.hid h;have b1:(k==1)=false:=by simpa using h1
 have b2:(k==2)=false:=by simpa using h2
 have b3:(k==3)=false:=by simpa using h3
 have b4:(k==4)=false:=by simpa using h4
 have b5:(k==5)=false:=by simpa using h5
 have b6:(k==6)=false:=by simpa using h6
 have b7:(k==7)=false:=by simpa using h7
 have b8:(k==8)=false:=by simpa using h8
 have b9:(k==9)=false:=by simpa using h9
 clear h;go_enter Tryz.func170,Tryz.ntmps170;go_wp2_with (refine wpList_store_blk rfl 58 (.tmp 2) (.tmp 40) rfl (w.heap.size+1) _ rfl rfl (blk_new2 _ _ _ _) info_row rfl rfl ?_);intro W' hz hgr;go_wp2_with fail;exact bodyPost_ret (results_blk Tryz.results170 rfl hz Tryz.underlying58 info_row) rfl (row_at (r:=unP ⟨k,kids,op,text,ms,dur,step,off,tim,bool,given,on,mls,card,inc,without,labels⟩) (m:=(.slice am nm cm)) (o:=(.slice ao no co)) (i:=(.slice ai ni ci)) (l:=(.slice al nl cl)) (by simp only[unP,RowLs,h1,h2,h3,h4,h5,h6,h7,h8,h9];simp;exact⟨HL.out.1,HL.out.2.1,HL.out.2.2.1,HL.out.2.2.2⟩) hgr (by simp[unP,rowA,eS,h1,h2,h3,h4,h5,h6,h7,h8,h9]))
end Go.Proofs.YtibcjfjacielbaaGreatDoor
