import Derived.Test.YtcdoilkjmjbgmaaGreatDoorS11
import Derived.Test.YtcdoilkjmjbgmaaGreatDoorS13
/- Part of the proof of YtcdoilkjmjbgmaaGreatDoorCardY: TrRc. -/
set_option maxRecDepth 100000
set_option maxHeartbeats 4000000
set_option linter.unusedVariables false
set_option linter.unusedSimpArgs false
namespace Go.Proofs.YtcdoilkjmjbgmaaGreatDoor
open Go.RowKit
open Go.Proofs.Tryz
theorem VD (w:World) (kids:Int) (op text bU step off tim:ByteArray) (bool given on without:Bool) (card:Int) (ms:List PM) (mls inc labels:List ByteArray) (am ao ai al:Option Addr) (nm cm no co ni ci nl cl:Nat)
  (h:bA 0 w ⟨8,kids,op,text,ms,bU,step,off,tim,bool,given,on,mls,card,inc,without,labels⟩ (.slice am nm cm) (.slice ao no co) (.slice ai ni ci) (.slice al nl cl)):
  Calls prog 77 #[.agg #[.int .i64 8,.int .i64 kids,.string op,.string text,.slice am nm cm,.string bU,.string step,.string off,.string tim,.bool bool,.bool given,.bool on,.slice ao no co,.int .i64 card,.slice ai ni ci,.bool without,.slice al nl cl]] w (qo w (gd ⟨8,kids,op,text,ms,bU,step,off,tim,bool,given,on,mls,card,inc,without,labels⟩)):=by
 have HL:=ae h;clear h;go_enter func77,ntmps77;go_wp2_with (refine ax rfl 46 (.tmp 2) (.tmp 40) rfl (w.heap.size+1) _ rfl rfl (ft _ _ _ _) aL rfl rfl ?_);intro W' hz jm;go_wp2_with fail;exact cB (bh results77 rfl hz underlying46 aL) rfl (nU (r:=gd ⟨8,kids,op,text,ms,bU,step,off,tim,bool,given,on,mls,card,inc,without,labels⟩) (m:=(.slice am nm cm)) (o:=(.slice ao no co)) (i:=(.slice ai ni ci)) (l:=(.slice al nl cl)) (by simp only[gd,bA];simp;exact⟨HL.out.1,HL.out.2.1,HL.out.2.2.1,HL.out.2.2.2⟩) jm (by simp[gd,et,eS]))
theorem VE (w:World) (kids:Int) (op text bU step off tim:ByteArray) (bool given on without:Bool) (card:Int) (ms:List PM) (mls inc labels:List ByteArray) (am ao ai al:Option Addr) (nm cm no co ni ci nl cl:Nat)
  (h:bA 0 w ⟨7,kids,op,text,ms,bU,step,off,tim,bool,given,on,mls,card,inc,without,labels⟩ (.slice am nm cm) (.slice ao no co) (.slice ai ni ci) (.slice al nl cl)):
  Calls prog 77 #[.agg #[.int .i64 7,.int .i64 kids,.string op,.string text,.slice am nm cm,.string bU,.string step,.string off,.string tim,.bool bool,.bool given,.bool on,.slice ao no co,.int .i64 card,.slice ai ni ci,.bool without,.slice al nl cl]] w (qo w (gd ⟨7,kids,op,text,ms,bU,step,off,tim,bool,given,on,mls,card,inc,without,labels⟩)):=by
 have HL:=ae h;clear h;go_enter func77,ntmps77;go_wp2_with (refine ax rfl 46 (.tmp 2) (.tmp 40) rfl (w.heap.size+1) _ rfl rfl (ft _ _ _ _) aL rfl rfl ?_);intro W' hz jm;go_wp2_with fail;exact cB (bh results77 rfl hz underlying46 aL) rfl (nU (r:=gd ⟨7,kids,op,text,ms,bU,step,off,tim,bool,given,on,mls,card,inc,without,labels⟩) (m:=(.slice am nm cm)) (o:=(.slice none 0 0)) (i:=(.slice none 0 0)) (l:=(.slice al nl cl)) (by simp only[gd,bA];simp;exact⟨HL.out.1,jc 0 w,HL.out.2.2.2⟩) jm (by simp[gd,et,eS]))
theorem VF (w:World) (kids:Int) (op text bU step off tim:ByteArray) (bool given on without:Bool) (card:Int) (ms:List PM) (mls inc labels:List ByteArray) (am ao ai al:Option Addr) (nm cm no co ni ci nl cl:Nat)
  (h:bA 0 w ⟨9,kids,op,text,ms,bU,step,off,tim,bool,given,on,mls,card,inc,without,labels⟩ (.slice am nm cm) (.slice ao no co) (.slice ai ni ci) (.slice al nl cl)):
  Calls prog 77 #[.agg #[.int .i64 9,.int .i64 kids,.string op,.string text,.slice am nm cm,.string bU,.string step,.string off,.string tim,.bool bool,.bool given,.bool on,.slice ao no co,.int .i64 card,.slice ai ni ci,.bool without,.slice al nl cl]] w (qo w (gd ⟨9,kids,op,text,ms,bU,step,off,tim,bool,given,on,mls,card,inc,without,labels⟩)):=by
 have HL:=ae h;clear h;go_enter func77,ntmps77;go_wp2_with (refine ax rfl 46 (.tmp 2) (.tmp 40) rfl (w.heap.size+1) _ rfl rfl (ft _ _ _ _) aL rfl rfl ?_);intro W' hz jm;go_wp2_with fail;exact cB (bh results77 rfl hz underlying46 aL) rfl (nU (r:=gd ⟨9,kids,op,text,ms,bU,step,off,tim,bool,given,on,mls,card,inc,without,labels⟩) (m:=(.slice am nm cm)) (o:=(.slice ao no co)) (i:=(.slice ai ni ci)) (l:=(.slice none 0 0)) (by simp only[gd,bA];simp;exact⟨HL.out.1,HL.out.2.1,HL.out.2.2.1,jc 0 w⟩) jm (by simp[gd,et,eS]))
