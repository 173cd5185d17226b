import Derived.Test.YtcdoilkjmjbgmaaGreatDoorR11
import Derived.Test.YtcdoilkjmjbgmaaGreatDoorR13
/- Part of the proof of YtcdoilkjmjbgmaaGreatDoorCardR: TrRb. -/
set_option maxRecDepth 100000
set_option maxHeartbeats 4000000
set_option linter.unusedVariables false
set_option linter.unusedSimpArgs false
namespace Go.Proofs.YtcdoilkjmjbgmaaGreatDoor
open Go.RowKit
open Tryz
theorem VA (w:World) (kids:Int) (op text bV step off tim:ByteArray) (bool given on without:Bool) (card:Int) (ms:List PM) (mls inc labels:List ByteArray) (am ao ai al:Option Addr) (nm cm no co ni ci nl cl:Nat)
  (h:bw 0 w ⟨4,kids,op,text,ms,bV,step,off,tim,bool,given,on,mls,card,inc,without,labels⟩ (.slice am nm cm) (.slice ao no co) (.slice ai ni ci) (.slice al nl cl)):
  Calls prog 77 #[.agg #[.int .i64 4,.int .i64 kids,.string op,.string text,.slice am nm cm,.string bV,.string step,.string off,.string tim,.bool bool,.bool given,.bool on,.slice ao no co,.int .i64 card,.slice ai ni ci,.bool without,.slice al nl cl]] w (qD w (gz ⟨4,kids,op,text,ms,bV,step,off,tim,bool,given,on,mls,card,inc,without,labels⟩)):=by
 have HL:=aa h;clear h;go_enter func77,ntmps77;go_wp2_with (refine ay rfl 46 (.tmp 2) (.tmp 40) rfl (w.heap.size+1) _ rfl rfl (fw _ _ _ _) aQ rfl rfl ?_);intro W' hz jw;go_wp2_with fail;exact cB (aZ results77 rfl hz underlying46 aQ) rfl (od (r:=gz ⟨4,kids,op,text,ms,bV,step,off,tim,bool,given,on,mls,card,inc,without,labels⟩) (m:=(.slice am nm cm)) (o:=(.slice ao no co)) (i:=(.slice ai ni ci)) (l:=(.slice al nl cl)) (by simp only[gz,bw];simp;exact⟨HL.out.1,HL.out.2.1,HL.out.2.2.1,HL.out.2.2.2⟩) jw (by simp[gz,dS,eS]))
theorem VB (w:World) (kids:Int) (op text bV step off tim:ByteArray) (bool given on without:Bool) (card:Int) (ms:List PM) (mls inc labels:List ByteArray) (am ao ai al:Option Addr) (nm cm no co ni ci nl cl:Nat)
  (h:bw 0 w ⟨5,kids,op,text,ms,bV,step,off,tim,bool,given,on,mls,card,inc,without,labels⟩ (.slice am nm cm) (.slice ao no co) (.slice ai ni ci) (.slice al nl cl)):
  Calls prog 77 #[.agg #[.int .i64 5,.int .i64 kids,.string op,.string text,.slice am nm cm,.string bV,.string step,.string off,.string tim,.bool bool,.bool given,.bool on,.slice ao no co,.int .i64 card,.slice ai ni ci,.bool without,.slice al nl cl]] w (qD w (gz ⟨5,kids,op,text,ms,bV,step,off,tim,bool,given,on,mls,card,inc,without,labels⟩)):=by
 have HL:=aa h;clear h;go_enter func77,ntmps77;go_wp2_with (refine ay rfl 46 (.tmp 2) (.tmp 40) rfl (w.heap.size+1) _ rfl rfl (fw _ _ _ _) aQ rfl rfl ?_);intro W' hz jw;go_wp2_with fail;exact cB (aZ results77 rfl hz underlying46 aQ) rfl (od (r:=gz ⟨5,kids,op,text,ms,bV,step,off,tim,bool,given,on,mls,card,inc,without,labels⟩) (m:=(.slice am nm cm)) (o:=(.slice ao no co)) (i:=(.slice ai ni ci)) (l:=(.slice al nl cl)) (by simp only[gz,bw];simp;exact⟨HL.out.1,HL.out.2.1,HL.out.2.2.1,HL.out.2.2.2⟩) jw (by simp[gz,dS,eS]))
theorem VC (w:World) (kids:Int) (op text bV step off tim:ByteArray) (bool given on without:Bool) (card:Int) (ms:List PM) (mls inc labels:List ByteArray) (am ao ai al:Option Addr) (nm cm no co ni ci nl cl:Nat)
  (h:bw 0 w ⟨6,kids,op,text,ms,bV,step,off,tim,bool,given,on,mls,card,inc,without,labels⟩ (.slice am nm cm) (.slice ao no co) (.slice ai ni ci) (.slice al nl cl)):
  Calls prog 77 #[.agg #[.int .i64 6,.int .i64 kids,.string op,.string text,.slice am nm cm,.string bV,.string step,.string off,.string tim,.bool bool,.bool given,.bool on,.slice ao no co,.int .i64 card,.slice ai ni ci,.bool without,.slice al nl cl]] w (qD w (gz ⟨6,kids,op,text,ms,bV,step,off,tim,bool,given,on,mls,card,inc,without,labels⟩)):=by
 have HL:=aa h;clear h;go_enter func77,ntmps77;go_wp2_with (refine ay rfl 46 (.tmp 2) (.tmp 40) rfl (w.heap.size+1) _ rfl rfl (fw _ _ _ _) aQ rfl rfl ?_);intro W' hz jw;go_wp2_with fail;exact cB (aZ results77 rfl hz underlying46 aQ) rfl (od (r:=gz ⟨6,kids,op,text,ms,bV,step,off,tim,bool,given,on,mls,card,inc,without,labels⟩) (m:=(.slice am nm cm)) (o:=(.slice ao no co)) (i:=(.slice ai ni ci)) (l:=(.slice al nl cl)) (by simp only[gz,bw];simp;exact⟨HL.out.1,HL.out.2.1,HL.out.2.2.1,HL.out.2.2.2⟩) jw (by simp[gz,dS,eS]))
