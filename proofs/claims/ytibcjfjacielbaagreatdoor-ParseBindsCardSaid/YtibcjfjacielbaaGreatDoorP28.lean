import Derived.Laws.Rows
import Derived.Test.YtibcjfjacielbaaGreatDoorP05
import Derived.Lib.DecodeN
import Derived.Lib.Strings
import Derived.Deep.QuietTactic
import Derived.BigQuiet
/- Part of the proof of YtibcjfjacielbaaGreatDoorCardP: Blk TrS. -/
set_option maxRecDepth 100000
set_option maxHeartbeats 4000000
set_option linter.unusedVariables false
set_option linter.unusedSimpArgs false
namespace Go.Proofs.YtibcjfjacielbaaGreatDoor
open Go.RowKit
theorem grown_setRow (w:World) (g:Nat) (cs:Array Value):w.grownBy (w.setRow g cs) (some g):=by
 refine⟨by simp,by simp,by simp,by simp,fun k hk hne=>setRow_other w g k cs ?_⟩;rintro rfl;exact hne rfl
theorem wpList_load_blk {P:Program} {ops:Array Oper} {rest:List Oper} {o:Oper} {a:Act} {w:World} {Q:Exit→Act→World→Prop} (hgd:o.guard=none) (ty:TypeId) (x:Operand) (ho:o.op= .load ty x)
  (g:Nat) (hx:a.eval x= .pointer (some ⟨g,0,none⟩)) {t:TypeId} {cs:Array Value} {fs:Array Field} (hb:Blk w g t cs)
  (hu:P.underlying ty=some (.struct fs)) (hi:(P.info? ty).map (·.size)=some cs.size)
  (h:wpList P ops Q rest (a.put o.dst (.agg cs)) w):wpList P ops Q (o::rest) a w:=
 wpList_load_row hgd ty x ho g hx t cs (0,0) _ hb hu rfl hi h
theorem wpList_store_blk {P:Program} {ops:Array Oper} {rest:List Oper} {o:Oper} {a:Act} {w:World} {Q:Exit→Act→World→Prop} (hgd:o.guard=none) (ty:TypeId) (x y:Operand) (ho:o.op= .store ty x y)
  (g:Nat) (cells:Array Value) (hx:a.eval x= .pointer (some ⟨g,0,none⟩)) (hy:a.eval y= .agg cells)
  {t:TypeId} {old:Array Value} (hb:Blk w g t old) (hi:(P.info? ty).map (·.size)=some cells.size)
  (hold:old.size=cells.size) (h1:cells.toList.all (·.oneCell')=true)
  (h: ∀W,Blk W g t cells→w.grownBy W (some g)→wpList P ops Q rest (a.put o.dst undef) W):wpList P ops Q (o::rest) a w:=
 wpList_store_row hgd ty x y ho g cells hx hy t old hb hi hold (by rw[←Array.all_toList];exact h1) (h _ (setRow_heap w g old cells t (0,0) hb) (grown_setRow w g cells))
theorem results_blk {P:Program} {fn:Func} {p:Tmp} {ty:TypeId} (h:fn.results= #[.cell p ty]) {tmps:Array Value} {w:World} {g:Nat} {t:TypeId} {cs:Array Value} {fs:Array Field}
  (hp:tmps.getD p undef= .pointer (some ⟨g,0,none⟩)) (hb:Blk w g t cs) (hu:P.underlying ty=some (.struct fs)) (hi:(P.info? ty).map (·.size)=some cs.size):
  (results fn tmps).run P w= .ok (.agg cs) w:=
 results_cell_row h tmps w g t cs (0,0) _ hp hb hu rfl hi
theorem below_grow {B g:Nat} {w w' w'':World} (hb:Below B w w') (hg:w'.grownBy w'' (some g)) (hB:B≤w'.heap.size) (hl:B≤g):Below B w w'':=
 hb.grown hg hB (fun k hk=>by injection hk with hk;omega)
theorem own_grow {w w':World} {base g:Nat} {e t:TypeId} {size n:Nat} {v:Value} {xs:List Value} {cs:Array Value} (h:w.ownsRow base e size v n xs) (hg:w.grownBy w' (some g)) (hb:Blk w g t cs) (hne:e≠t):w'.ownsRow base e size v n xs:=
 h.kept hg (.inr (own_blk_ne h hb hne))
def IntPost (w:World) (k:Int) (e:Ending) (w':World):Prop:=e= .returned (.int .i64 k)∧Below w.heap.size w w'
def BoolPost (w:World) (b:Bool) (e:Ending) (w':World):Prop:=e= .returned (.bool b)∧Below w.heap.size w w'
def EqPost (w:World) (p:Prop) (e:Ending) (w':World):Prop:= ∃b:Bool,e= .returned (.bool b)∧(b=true↔p)∧Below w.heap.size w w'
theorem EqPost.yes {w w':World} {p:Prop} (h:p) (hb:Below w.heap.size w w'):EqPost w p (.returned (.bool true)) w':=⟨true,rfl,by simp[h],hb⟩
theorem EqPost.no {w w':World} {p:Prop} (h: ¬p) (hb:Below w.heap.size w w'):EqPost w p (.returned (.bool false)) w':=⟨false,rfl,by simp[h],hb⟩
theorem beq_str {x y:ByteArray}:(x.toList==y.toList)=true↔x=y:=by
 rw[beq_iff_eq,ByteArray.toList_eq,ByteArray.toList_eq];constructor
 ·intro e;rw[←mk_data x,←mk_data y,e]
 ·rintro rfl;rfl
theorem equal_str {b1 b2:Nat} {w:World} {v1 v2:Value} {xs ys:List ByteArray} (h1:StrS b1 w v1 xs) (h2:StrS b2 w v2 ys) (hn:xs.length≤1099511627776) (hm:ys.length≤1099511627776):
  Calls Tryz.prog 127 #[v1,v2] w (EqPost w (xs=ys)):=by
 obtain⟨a1,c1,rfl,hc1⟩:=h1;obtain⟨a2,c2,rfl,hc2⟩:=h2;have H1:=Lib.hid hc1;have H2:=Lib.hid hc2;clear hc1 hc2;by_cases hl:xs.length=ys.length
 ·have HL:=Lib.hid hl;rw[←hl]at hm ⊢
  clear hl;go_enter Tryz.func127,Tryz.ntmps127;go_wp2_with fail;go_loopw [13] (fun t13 wr=> ∃j q:Nat,Hid (j≤xs.length)∧t13= .int .i64 (j:Int)∧wr=w.drewN q∧Hid (∀i (h:i<j) (hx:i<xs.length) (hy:i<ys.length),xs[i]=ys[i])) (fun t13 _=>xs.length-(intOf t13).toNat)
  case atStart=>exact⟨0,0,Lib.hid (Nat.zero_le _),rfl,rfl,Lib.hid fun i h=>absurd h (by omega)⟩
  case round=>
   obtain⟨j,q,hj,rfl,rfl,hall⟩:=hrel;by_cases hlt:j<xs.length
   ·have p1:((j:Int)<(xs.length:Int))=True:=eq_true (by omega);have hlt2:j<ys.length:=by rw[←HL.out];exact hlt
    obtain⟨g1,o1,rfl,_,_,x1⟩:=H1.out j hlt;obtain⟨g2,o2,rfl,_,_,x2⟩:=H2.out j hlt2;generalize hX:xs[j]=x at x1;generalize hY:ys[j]=y at x2;have HX:=Lib.hid (show xs[j]=x from hX);have HY:=Lib.hid hY;clear hX hY;by_cases he:x=y
    ·have e1:(x.toList==y.toList)=true:=beq_str.2 he;have HN:Hid (∀i (h:i<j+1) (hx:i<xs.length) (hy:i<ys.length),xs[i]=ys[i]):=Lib.hid fun i h hx hy=>by
      by_cases e:i=j
      ·subst e;rw[HX.out,HY.out,he]
      ·exact hall.out i (by omega) hx hy
     clear he;go_wp2_with fail;go_quiet (fail);go_wp2_with fail;exact⟨⟨j+1,q+nq,Lib.hid hlt,rfl,rfl,HN⟩,by simp[intOf];omega⟩
    ·have e1:(x.toList==y.toList)=false:=by rw[←Bool.not_eq_true,beq_str];exact he
     have HN:Hid (¬xs=ys):=Lib.hid fun e=>he (by rw[←HX.out,←HY.out];subst e;rfl)
     clear he;go_wp2_with fail;go_quiet (fail);go_wp2_with fail;go_ret;exact EqPost.no HN.out (by rw[World.drewN_drewN];exact Go.below_drewN (Below.refl _ _) _)
   ·have p1:((j:Int)<(xs.length:Int))=False:=eq_false (by omega);have HN:Hid (xs=ys):=Lib.hid (List.ext_getElem HL.out fun i hx hy=>hall.out i (by omega) hx hy);go_wp2_with fail;go_ret;exact EqPost.yes HN.out (Go.below_drewN (Below.refl _ _) _)
 ·have p1:((xs.length:Int)==(ys.length:Int))=false:=by rw[beq_eq_false_iff_ne];omega
  have HN:Hid (¬xs=ys):=Lib.hid fun e=>hl (by rw[e])
  clear hl;go_enter Tryz.func127,Tryz.ntmps127;go_wp2_with fail;go_ret;exact EqPost.no HN.out (Below.refl _ _)
theorem equal_mat {b1 b2:Nat} {w:World} {v1 v2:Value} {xs ys:List PM} (h1:MatS b1 w v1 xs) (h2:MatS b2 w v2 ys) (hn:xs.length≤1099511627776) (hm:ys.length≤1099511627776):
  Calls Tryz.prog 126 #[v1,v2] w (EqPost w (xs=ys)):=by
 obtain⟨a1,c1,rfl,hc1⟩:=h1;obtain⟨a2,c2,rfl,hc2⟩:=h2;have H1:=Lib.hid hc1;have H2:=Lib.hid hc2;clear hc1 hc2;by_cases hl:xs.length=ys.length
 ·have HL:=Lib.hid hl;rw[←hl]at hm ⊢
  clear hl;go_enter Tryz.func126,Tryz.ntmps126;go_wp2_with fail;go_loopw [13] (fun t13 wr=> ∃j q:Nat,Hid (j≤xs.length)∧t13= .int .i64 (j:Int)∧wr=w.drewN q∧Hid (∀i (h:i<j) (hx:i<xs.length) (hy:i<ys.length),xs[i]=ys[i])) (fun t13 _=>xs.length-(intOf t13).toNat)
  case atStart=>exact⟨0,0,Lib.hid (Nat.zero_le _),rfl,rfl,Lib.hid fun i h=>absurd h (by omega)⟩
  case round=>
   obtain⟨j,q,hj,rfl,rfl,hall⟩:=hrel;by_cases hlt:j<xs.length
   ·have p1:((j:Int)<(xs.length:Int))=True:=eq_true (by omega);have hlt2:j<ys.length:=by rw[←HL.out];exact hlt
    obtain⟨g1,o1,rfl,_,_,x1,x1b,x1c⟩:=H1.out j hlt;obtain⟨g2,o2,rfl,_,_,x2,x2b,x2c⟩:=H2.out j hlt2;generalize hX:xs[j]=x at x1 x1b x1c;generalize hY:ys[j]=y at x2 x2b x2c;have HX:=Lib.hid (show xs[j]=x from hX);have HY:=Lib.hid hY;clear hX hY;by_cases he:x=y
    ·have HN:Hid (∀i (h:i<j+1) (hx:i<xs.length) (hy:i<ys.length),xs[i]=ys[i]):=Lib.hid fun i h hx hy=>by
      by_cases e:i=j
      ·subst e;rw[HX.out,HY.out,he]
      ·exact hall.out i (by omega) hx hy
     subst he;clear HX HY;obtain⟨n1,p1',v1⟩:=x;simp only at x1 x1b x1c x2 x2b x2c;go_wp2_with fail;go_quiet (fail);go_wp2_with fail;exact⟨⟨j+1,q+nq,Lib.hid hlt,rfl,rfl,HN⟩,by simp[intOf];omega⟩
    ·have HN:Hid (¬xs=ys):=Lib.hid fun e=>he (by rw[←HX.out,←HY.out];subst e;rfl)
     clear HX HY;obtain⟨n1,p1',v1⟩:=x;obtain⟨n2,p2',v2⟩:=y;simp only at x1 x1b x1c x2 x2b x2c;by_cases h1:n1=n2
     ·subst h1;by_cases h2:p1'=p2'
      ·subst h2;have e1:(v1.toList=v2.toList)=False:=eq_false fun e=>he (by rw[beq_str.1 (beq_iff_eq.2 e)])
       clear he;go_wp2_with fail;go_quiet (fail);go_wp2_with fail;go_ret;exact EqPost.no HN.out (by rw[World.drewN_drewN];exact Go.below_drewN (Below.refl _ _) _)
      ·have e1:(p1'=p2')=False:=eq_false h2;clear he h2;go_wp2_with fail;go_quiet (fail);go_wp2_with fail;go_ret;exact EqPost.no HN.out (by rw[World.drewN_drewN];exact Go.below_drewN (Below.refl _ _) _)
     ·have e1:(n1.toList=n2.toList)=False:=eq_false fun e=>h1 (beq_str.1 (beq_iff_eq.2 e))
      clear he h1;go_wp2_with fail;go_quiet (fail);go_wp2_with fail;go_ret;exact EqPost.no HN.out (by rw[World.drewN_drewN];exact Go.below_drewN (Below.refl _ _) _)
   ·have p1:((j:Int)<(xs.length:Int))=False:=eq_false (by omega);have HN:Hid (xs=ys):=Lib.hid (List.ext_getElem HL.out fun i hx hy=>hall.out i (by omega) hx hy);go_wp2_with fail;go_ret;exact EqPost.yes HN.out (Go.below_drewN (Below.refl _ _) _)
 ·have p1:((xs.length:Int)==(ys.length:Int))=false:=by rw[beq_eq_false_iff_ne];omega
  have HN:Hid (¬xs=ys):=Lib.hid fun e=>hl (by rw[e])
  clear hl;go_enter Tryz.func126,Tryz.ntmps126;go_wp2_with fail;go_ret;exact EqPost.no HN.out (Below.refl _ _)
end Go.Proofs.YtibcjfjacielbaaGreatDoor
