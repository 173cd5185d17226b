import Derived.Test.YtibcjfjacielbaaGreatDoorP04
import Derived.Deep.QuietTactic
import Derived.BigQuiet
import Derived.Deep.CutRange
import Derived.Deep.RegionLaw
import Derived.BigRegion
import Derived.Deep.RegionHeld3
/- Part of the proof of YtibcjfjacielbaaGreatDoorCardP: LexC. -/
set_option maxRecDepth 100000
set_option maxHeartbeats 4000000
set_option linter.unusedVariables false
set_option linter.unusedSimpArgs false
namespace Go.Proofs.YtibcjfjacielbaaGreatDoor
open Go.RowKit
def natAt (w:World) (p:Nat):Nat:=match w.cell? ⟨p,1,none⟩with|some (.int _ k)=>k.toNat|_=>0
def Tok.cells (t:Tok):List Value:=[.int .i64 (t.kind:Int),.string ⟨t.text.toArray⟩,.int .i64 (t.pos:Int)]
def toksCells (ts:List Tok):List Value:=ts.flatMap Tok.cells
theorem toksCells_push (ts:List Tok) (t:Tok):toksCells (ts++[t])=toksCells ts++t.cells:=by simp[toksCells]
theorem step_push {P : Program} {ops : Array Oper} {o : Oper} {a : Act} {w0 : World} {K : Act → World → Prop} {Q : Exit → Act → World → Prop} {E : Prop}
    (hg : o.guard = none) (s x : Operand) (t : TypeId) (hop : o.op = Op.call { callee := Callee.builtin Builtin.append, args := #[s, x], argTypes := #[t, t] })
    (base : Nat) (e : TypeId) (z : Value) (size bytes : Nat) (hinfo : (P.info? e).map (fun i => (i.zero, i.size, i.bytes)) = some (some z, size, bytes)) (h1 : P.underlying t = some (.slice e)) (hzs : z.cells.size = size) (hsz : 0 < size)
    (v : Value) (n : Nat) (xs : List Value) (hs : a.eval s = v) (hown : w0.ownsRow base e size v n xs) (us : List Value) (hus : us.length = size)
    (hx : a.eval x = .slice (some ⟨w0.heap.size, 0, none⟩) 1 1) (h1c : ∀ u ∈ us, u.oneCell' = true) (hmax : n + 1 ≤ maxLen) (hb : (n + 1) * bytes ≤ 140737488355328) (hbase : base ≤ w0.heap.size)
    (hK : ∀ v' w', w'.ownsRow base e size v' (n + 1) (xs ++ us) → w0.grownBy w' v.ownBlock → K (a.put o.dst v') w') :
    if Region.wanted o (yielded ops a.tmps)=true then Oper.wp P o a (w0.alloc (.cells us.toArray e)) K Q else E:=by
  have hw:Region.wanted o (yielded ops a.tmps)=true:=by simp[Region.wanted,hg]
  rw[if_pos hw]
  obtain⟨i,hi,hz,hsi,hby⟩:=info_parts hinfo
  obtain ⟨v', w', hrun, r1, r2, _⟩ := run_append_own (P := P) (w0.alloc (.cells us.toArray e)) base t o.type e i z size bytes h1 hi hz hsi hby hzs hsz v n xs (hown.alloc _) ⟨w0.heap.size, 0, none⟩ 1 1 us (by omega)
    (by intro j u hu
        have hj:j<us.length:=(List.getElem?_eq_some_iff.1 hu).1
        rw[Addr.add_lit,Nat.zero_add,World.cell?_alloc_at _ _ _ _ rfl]
        simpa using hu) h1c hmax hb (by simp;omega)
  unfold Oper.wp
  simp[execOp,hop,resolve,invoke,builtin,hs,hx,hrun,Result.andThen]
  exact hK v' w' r1 (grow_trans (World.grownBy_alloc w0 _ _) r2)
def ZAt (w:World) (p:Nat) (s:ByteArray) (at':Nat) (br sq:Bool) (v:Value):Prop:=Blk w p 138 #[.string s,.int .i64 (at':Int),.bool br,.bool sq,v]
theorem info_tok:(Tryz.prog.info? 81).map (fun i=>(i.zero,i.size,i.bytes))=some (some (.agg #[.int .i64 0,.string ⟨#[]⟩,.int .i64 0]),3,32):=by
 kernel_rfl
theorem own_grown {w w':World} {base:Nat} {e:TypeId} {size n:Nat} {v:Value} {xs:List Value} {row:Option Nat} (h:w.ownsRow base e size v n xs) (hb:w.grownBy w' row) (hg: ∀g,v.ownBlock=some g→some g≠row):w'.ownsRow base e size v n xs:=by
 refine⟨h.1,?_⟩;rcases h.2 with hn|⟨g,cap,cur,rfl,h1,h2,h3,h4,h5,h6⟩
 ·exact .inl hn
 ·have hlt:g<w.heap.size:=by
   rcases Nat.lt_or_ge g w.heap.size with hlt|hge
   ·exact hlt
   ·rw[Array.getElem?_eq_none hge]at h2;cases h2
  exact .inr ⟨g,cap,cur,rfl,h1,(hb.block g hlt (hg g rfl)).trans h2,h3,h4,h5,h6⟩
theorem own_form {w:World} {base:Nat} {e:TypeId} {size n:Nat} {v:Value} {xs:List Value} (h:w.ownsRow base e size v n xs): ∃ao n' c',v= .slice ao n' c':=by
 rcases h.2 with⟨rfl,_⟩|⟨g,cap,cur,rfl,_⟩
 ·exact⟨_,_,_,rfl⟩
 ·exact⟨_,_,_,rfl⟩
theorem put_kept {w w':World} {base p n:Nat} {s:ByteArray} {at':Nat} {br sq:Bool} {v:Value} {xs:List Value} (hz:ZAt w p s at' br sq v) (ho:w.ownsRow base 81 3 v n xs) (hg:w.drew.grownBy w' v.ownBlock):ZAt w' p s at' br sq v:=
 Blk.grown (w:=w.drew) hz hg (own_blk_ne (e:=81) ho hz (by decide)).symm
def PutPost (base p:Nat) (s:ByteArray) (at':Nat) (br sq:Bool) (ts:List Tok) (w:World) (e:Ending) (w':World):Prop:=
 e= .returned (.int .i64 0)∧ ∃v,ZAt w' p s at' br sq v∧w'.ownsRow base 81 3 v ts.length (toksCells ts)∧Below base w w'
theorem lex_put (w:World) (base p:Nat) (s:ByteArray) (at' k n:Nat) (x y:Int) (hx:x=(k:Int)) (hy:y=(n:Int)) (br sq:Bool) (v:Value) (ts:List Tok) (hs:s.size≤281474976710656) (hn:at'+n≤s.size) (hk:k≤6)
  (hz:ZAt w p s at' br sq v) (hown:w.ownsRow base 81 3 v ts.length (toksCells ts)) (hlen:ts.length≤1099511627776) (hbp:base≤p):
  Calls Tryz.prog 144 #[.pointer (some ⟨p,0,none⟩),.int .i64 x,.int .i64 y] w (PutPost base p s (at'+n) br sq (ts++[⟨k,(s.data.toList.drop at').take n,at'⟩]) w):=by
 subst hx hy;have hw:IntKind.i64.wrap ((at':Int)+(n:Int))=((at'+n:Nat):Int):=by rw[IntKind.wrap_i64];omega
 have q1:(0≤(at':Int)+(n:Int))=True:=by simp;omega
 have q2:((at':Int)+(n:Int)≤(s.size:Int))=True:=by simp;omega
 have q3:((at':Int)≤(at':Int)+(n:Int))=True:=by simp;omega
 have q4:((at':Int)+(n:Int)).toNat=at'+n:=by omega
 have c0:w.cell? ⟨p,0,none⟩=some (.string s):=by rw[hz.cell];rfl
 have c1:w.cell? ⟨p,1,none⟩=some (.int .i64 (at':Int)):=by rw[hz.cell];rfl
 have c4:w.cell? ⟨p,4,none⟩=some v:=by rw[hz.cell];rfl
 have e4: ∀o,(w.alloc o).cell? ⟨p,4,none⟩=some v:=fun o=>((Blk.alloc hz o).cell 4).trans rfl
 have e4': ∀o,(w.drew.alloc o).cell? ⟨p,4,none⟩=some v:=fun o=>((Blk.alloc (w:=w.drew) hz o).cell 4).trans rfl
 have HZ:=Lib.hid hz;have HO:=Lib.hid hown;clear hz hown;go_enter Tryz.func144,Tryz.ntmps144;go_wp2_with fail;refine wp_region_noPanic ?_;refine wp_region_held_drew (S:=fun w'=>w'.cell? ⟨p,0,none⟩=some (.string s)∧w'.cell? ⟨p,1,none⟩=some (.int .i64 (at':Int))) (by kernel_rfl) ?_ (fun hHeld=>?_)
 ·(try dsimp only)
  first|done|go_keep|(refine⟨?_,?_⟩<;>(rw[World.cell?_setCell_other _ _ _ _ (by simp)];assumption))
 refine wpAnyH_take (i:=0) (v:=?_) rfl (by kernel_rfl) (by kernel_rfl) (by kernel_rfl) (fun _ _ _ h=>h) (Or.inl ⟨by rfl,?_⟩) (by assumption) ?_
 rotate_left
 ·intro w hSw
  try dsimp only at hSw
  go_simp
  first|done|(with_reducible rfl)
 try simp only[Act.put,List.setIfInBounds_toArray,List.set_cons_zero,List.set_cons_succ]
 refine wpAnyH_take (i:=1) (v:=?_) rfl (by kernel_rfl) (by kernel_rfl) (by kernel_rfl) (fun _ _ _ h=>h) (Or.inl ⟨by rfl,?_⟩) (by assumption) ?_
 rotate_left
 ·intro w hSw
  try dsimp only at hSw
  go_simp
  first|done|(with_reducible rfl)
 try simp only[Act.put,List.setIfInBounds_toArray,List.set_cons_zero,List.set_cons_succ]
 refine wpAnyH_take (i:=2) (v:=?_) rfl (by kernel_rfl) (by kernel_rfl) (by kernel_rfl) (fun _ _ _ h=>h) (Or.inl ⟨by rfl,?_⟩) (by assumption) ?_
 rotate_left
 ·intro w hSw
  try dsimp only at hSw
  go_simp
  first|done|(with_reducible rfl)
 try simp only[Act.put,List.setIfInBounds_toArray,List.set_cons_zero,List.set_cons_succ]
 refine wpAnyH_take (i:=3) (v:=?_) rfl (by kernel_rfl) (by kernel_rfl) (by kernel_rfl) (fun _ _ _ h=>h) (Or.inl ⟨by rfl,?_⟩) (by assumption) ?_
 rotate_left
 ·intro w hSw
  try dsimp only at hSw
  go_simp
  first|done|(with_reducible rfl)
 try simp only[Act.put,List.setIfInBounds_toArray,List.set_cons_zero,List.set_cons_succ]
 refine wpAnyH_take (i:=5) (v:=?_) rfl (by kernel_rfl) (by kernel_rfl) (by kernel_rfl) (fun _ _ _ h=>h) (Or.inl ⟨by rfl,?_⟩) (by assumption) ?_
 rotate_left
 ·intro w hSw
  try dsimp only at hSw
  go_simp
  first|done|(with_reducible rfl)
 try simp only[Act.put,List.setIfInBounds_toArray,List.set_cons_zero,List.set_cons_succ]
 refine wpAnyH_take (i:=6) (v:=?_) rfl (by kernel_rfl) (by kernel_rfl) (by kernel_rfl) (fun _ _ _ h=>h) (Or.inl ⟨by rfl,?_⟩) (by assumption) ?_
 rotate_left
 ·intro w hSw
  try dsimp only at hSw
  go_simp
  first|done|(with_reducible rfl)
 try simp only[Act.put,List.setIfInBounds_toArray,List.set_cons_zero,List.set_cons_succ]
 refine wpAnyH_take (i:=7) (v:=?_) rfl (by kernel_rfl) (by kernel_rfl) (by kernel_rfl) (fun _ _ _ h=>h) (Or.inl ⟨by rfl,?_⟩) (by assumption) ?_
 rotate_left
 ·intro w hSw
  try dsimp only at hSw
  go_simp
  first|done|(with_reducible rfl)
 try simp only[Act.put,List.setIfInBounds_toArray,List.set_cons_zero,List.set_cons_succ]
 refine wpAnyH_take (i:=8) (v:=?_) rfl (by kernel_rfl) (by kernel_rfl) (by kernel_rfl) (fun _ _ _ h=>h) (Or.inl ⟨by rfl,?_⟩) (by assumption) ?_
 rotate_left
 ·intro w hSw
  try dsimp only at hSw
  go_simp
  first|done|(with_reducible rfl)
 try simp only[Act.put,List.setIfInBounds_toArray,List.set_cons_zero,List.set_cons_succ]
 refine wpAnyH_take (i:=9) (v:=?_) rfl (by kernel_rfl) (by kernel_rfl) (by kernel_rfl) (fun _ _ _ h=>h) (Or.inl ⟨by rfl,?_⟩) (by assumption) ?_
 rotate_left
 ·intro w hSw
  try dsimp only at hSw
  go_simp
  first|done|(with_reducible rfl)
 try simp only[Act.put,List.setIfInBounds_toArray,List.set_cons_zero,List.set_cons_succ]
 refine wpAnyH_take (i:=10) (v:=?_) rfl (by kernel_rfl) (by kernel_rfl) (by kernel_rfl) (fun _ _ _ h=>h) (Or.inl ⟨by rfl,?_⟩) (by assumption) ?_
 rotate_left
 ·intro w hSw
  try dsimp only at hSw
  go_simp
  first|done|(with_reducible rfl)
 try simp only[Act.put,List.setIfInBounds_toArray,List.set_cons_zero,List.set_cons_succ]
 refine wpAnyH_take (i:=11) (v:=?_) rfl (by kernel_rfl) (by kernel_rfl) (by kernel_rfl) (fun _ _ _ h=>h) (Or.inl ⟨by rfl,?_⟩) (by assumption) ?_
 rotate_left
 ·intro w hSw
  try dsimp only at hSw
  go_simp
  first|done|(with_reducible rfl)
 try simp only[Act.put,List.setIfInBounds_toArray,List.set_cons_zero,List.set_cons_succ]
 refine wpAnyH_take (i:=12) (v:=?_) rfl (by kernel_rfl) (by kernel_rfl) (by kernel_rfl) (fun _ _ _ h=>h) (Or.inl ⟨by rfl,?_⟩) (by assumption) ?_
 rotate_left
 ·intro w hSw
  try dsimp only at hSw
  go_simp
  first|done|(with_reducible rfl)
 try simp only[Act.put,List.setIfInBounds_toArray,List.set_cons_zero,List.set_cons_succ]
 refine wpAnyH_take (i:=13) (v:=?_) rfl (by kernel_rfl) (by kernel_rfl) (by kernel_rfl) (fun _ _ _ h=>h) (Or.inl ⟨by rfl,?_⟩) (by assumption) ?_
 rotate_left
 ·intro w hSw
  try dsimp only at hSw
  go_simp
  first|done|(with_reducible rfl)
 try simp only[Act.put,List.setIfInBounds_toArray,List.set_cons_zero,List.set_cons_succ]
 refine wpAnyH_take (i:=14) (v:=?_) rfl (by kernel_rfl) (by kernel_rfl) (by kernel_rfl) (fun _ _ _ h=>h) (Or.inl ⟨by rfl,?_⟩) (by assumption) ?_
 rotate_left
 ·intro w hSw
  try dsimp only at hSw
  go_simp
  first|done|(with_reducible rfl)
 try simp only[Act.put,List.setIfInBounds_toArray,List.set_cons_zero,List.set_cons_succ]
 refine wpAnyH_take (i:=15) (v:=?_) rfl (by kernel_rfl) (by kernel_rfl) (by kernel_rfl) (fun _ _ _ h=>h) (Or.inl ⟨by rfl,?_⟩) (by assumption) ?_
 rotate_left
 ·intro w hSw
  try dsimp only at hSw
  go_simp
  first|done|(with_reducible rfl)
 try simp only[Act.put,List.setIfInBounds_toArray,List.set_cons_zero,List.set_cons_succ]
 refine wpAnyH_take (i:=16) (v:=?_) rfl (by kernel_rfl) (by kernel_rfl) (by kernel_rfl) (fun _ _ _ h=>h) (Or.inl ⟨by rfl,?_⟩) (by assumption) ?_
 rotate_left
 ·intro w hSw
  try dsimp only at hSw
  go_simp
  first|done|(with_reducible rfl)
 try simp only[Act.put,List.setIfInBounds_toArray,List.set_cons_zero,List.set_cons_succ]
 refine wpAnyH_take (i:=17) (v:=?_) rfl (by kernel_rfl) (by kernel_rfl) (by kernel_rfl) (fun _ _ _ h=>h) (Or.inl ⟨by rfl,?_⟩) (by assumption) ?_
 rotate_left
 ·intro w hSw
  try dsimp only at hSw
  go_simp
  first|done|(with_reducible rfl)
 try simp only[Act.put,List.setIfInBounds_toArray,List.set_cons_zero,List.set_cons_succ]
 refine wpAnyH_take (i:=18) (v:=?_) rfl (by kernel_rfl) (by kernel_rfl) (by kernel_rfl) (fun _ _ _ h=>h) (Or.inl ⟨by rfl,?_⟩) (by assumption) ?_
 rotate_left
 ·intro w hSw
  try dsimp only at hSw
  go_simp
  first|done|(with_reducible rfl)
 try simp only[Act.put,List.setIfInBounds_toArray,List.set_cons_zero,List.set_cons_succ]
 refine wpAnyH_take (i:=19) (v:=?_) rfl (by kernel_rfl) (by kernel_rfl) (by kernel_rfl) (fun _ _ _ h=>h) (Or.inl ⟨by rfl,?_⟩) (by assumption) ?_
 rotate_left
 ·intro w hSw
  try dsimp only at hSw
  go_simp
  first|done|(with_reducible rfl)
 try simp only[Act.put,List.setIfInBounds_toArray,List.set_cons_zero,List.set_cons_succ]
 refine wpAnyH_take (i:=20) (v:=?_) rfl (by kernel_rfl) (by kernel_rfl) (by kernel_rfl) (fun _ _ _ h=>h) (Or.inl ⟨by rfl,?_⟩) (by assumption) ?_
 rotate_left
 ·intro w hSw
  try dsimp only at hSw
  go_simp
  first|done|(with_reducible rfl)
 try simp only[Act.put,List.setIfInBounds_toArray,List.set_cons_zero,List.set_cons_succ]
 refine wpAnyH_take (i:=21) (v:=?_) rfl (by kernel_rfl) (by kernel_rfl) (by kernel_rfl) (fun _ _ _ h=>h) (Or.inl ⟨by rfl,?_⟩) (by assumption) ?_
 rotate_left
 ·intro w hSw
  try dsimp only at hSw
  go_simp
  first|done|(with_reducible rfl)
 try simp only[Act.put,List.setIfInBounds_toArray,List.set_cons_zero,List.set_cons_succ]
 refine wpAnyH_take (i:=22) (v:=?_) rfl (by kernel_rfl) (by kernel_rfl) (by kernel_rfl) (fun _ _ _ h=>h) (Or.inl ⟨by rfl,?_⟩) (by assumption) ?_
 rotate_left
 ·intro w hSw
  try dsimp only at hSw
  go_simp
  first|done|(with_reducible rfl)
 try simp only[Act.put,List.setIfInBounds_toArray,List.set_cons_zero,List.set_cons_succ]
 refine wpAnyH_take (i:=23) (v:=?_) rfl (by kernel_rfl) (by kernel_rfl) (by kernel_rfl) (fun _ _ _ h=>h) (Or.inl ⟨by rfl,?_⟩) (by assumption) ?_
 rotate_left
 ·intro w hSw
  try dsimp only at hSw
  go_simp
  first|done|(with_reducible rfl)
 try simp only[Act.put,List.setIfInBounds_toArray,List.set_cons_zero,List.set_cons_succ]
 refine wpAnyH_take (i:=24) (v:=?_) rfl (by kernel_rfl) (by kernel_rfl) (by kernel_rfl) (fun _ _ _ h=>h) (Or.inl ⟨by rfl,?_⟩) (by assumption) ?_
 rotate_left
 ·intro w hSw
  try dsimp only at hSw
  go_simp
  first|done|(with_reducible rfl)
 try simp only[Act.put,List.setIfInBounds_toArray,List.set_cons_zero,List.set_cons_succ]
 refine wpAnyH_take (i:=25) (v:=?_) rfl (by kernel_rfl) (by kernel_rfl) (by kernel_rfl) (fun _ _ _ h=>h) (Or.inl ⟨by rfl,?_⟩) (by assumption) ?_
 rotate_left
 ·intro w hSw
  try dsimp only at hSw
  go_simp
  first|done|(with_reducible rfl)
 try simp only[Act.put,List.setIfInBounds_toArray,List.set_cons_zero,List.set_cons_succ]
 refine wpAnyH_ready (rs:=[4,26]) (by kernel_rfl) (by simp) ?_;refine AllReadyH.cons (i:=4) rfl (fun K hK=>?_) ?_
 ·go_simp
  refine hK.out _ _ ?_ (fun hHeld=>?_)
  ·(try dsimp only)
   first|done|go_keep|(refine⟨?_,?_⟩<;>(rw[World.cell?_setCell_other _ _ _ _ (by simp)];assumption))
  clear hK K
  try simp only[Act.put,List.setIfInBounds_toArray,List.set_cons_zero,List.set_cons_succ]
  refine wpAnyH_ready (rs:=[26]) (by kernel_rfl) (by simp) ?_;refine AllReadyH.cons (i:=26) rfl (fun K hK=>?_) ?_
  ·go_simp
   refine hK.out _ _ ?_ (fun hHeld=>?_)
   ·(try dsimp only)
    first|done|go_keep|(refine⟨?_,?_⟩<;>(rw[World.cell?_setCell_other _ _ _ _ (by simp)];assumption))
   clear hK K
   try simp only[Act.put,List.setIfInBounds_toArray,List.set_cons_zero,List.set_cons_succ]
   refine wpAnyH_ready (rs:=[27]) (by kernel_rfl) (by simp) ?_;refine AllReadyH.cons (i:=27) rfl (fun K hK=>?_) ?_
   ·refine step_push (w0:=w.drew) rfl (.tmp 11) (.tmp 33) 77 rfl base 81 (.agg #[.int .i64 0,.string ⟨#[]⟩,.int .i64 0]) 3 32 info_tok Tryz.underlying77 rfl (by omega) v _ _ (by rfl) HO.out [.int .i64 (k:Int),.string (s.extract at' (at'+n)),.int .i64 (at':Int)] rfl (by rfl) (by intro u hu;simp at hu;rcases hu with rfl|rfl|rfl<;>rfl) (by unfold maxLen;omega) (by omega) (Nat.le_of_lt (Nat.lt_of_le_of_lt hbp HZ.out.lt)) ?_;intro v' w' ho hg;obtain⟨ao,n',c',rfl⟩:=own_form ho;have hz2:=put_kept HZ.out HO.out hg;have d4:w'.cell? ⟨p,4,none⟩=some v:=(hz2.cell 4).trans rfl;have f4:w'.frozen? ⟨p,4,none⟩=false:=hz2.frozen 4;have f1:w'.frozen? ⟨p,1,none⟩=false:=hz2.frozen 1;have d0:w'.cell? ⟨p,0,none⟩=some (.string s):=(hz2.cell 0).trans rfl;have d1:w'.cell? ⟨p,1,none⟩=some (.int .i64 (at':Int)):=(hz2.cell 1).trans rfl;have HZ2:=Lib.hid hz2;have HO2:=Lib.hid ho;have HG2:=Lib.hid hg;clear hz2 ho hg;refine hK.out _ _ ?_ (fun hHeld=>?_)
    ·(try dsimp only)
     first|done|go_keep|(refine⟨?_,?_⟩<;>(rw[World.cell?_setCell_other _ _ _ _ (by simp)];assumption))
    clear hK K
    try simp only[Act.put,List.setIfInBounds_toArray,List.set_cons_zero,List.set_cons_succ]
    refine wpAnyH_take (i:=28) (v:=?_) rfl (by kernel_rfl) (by kernel_rfl) (by kernel_rfl) (fun _ _ _ h=>h) (Or.inl ⟨by rfl,?_⟩) (by assumption) ?_
    rotate_left
    ·intro w hSw
     try dsimp only at hSw
     go_simp
     first|done|(with_reducible rfl)
    try simp only[Act.put,List.setIfInBounds_toArray,List.set_cons_zero,List.set_cons_succ]
    refine wpAnyH_take (i:=29) (v:=?_) rfl (by kernel_rfl) (by kernel_rfl) (by kernel_rfl) (fun _ _ _ h=>h) (Or.inl ⟨by rfl,?_⟩) (by assumption) ?_
    rotate_left
    ·intro w hSw
     try dsimp only at hSw
     go_simp
     first|done|(with_reducible rfl)
    try simp only[Act.put,List.setIfInBounds_toArray,List.set_cons_zero,List.set_cons_succ]
    refine wpAnyH_ready (rs:=[30]) (by kernel_rfl) (by simp) ?_;refine AllReadyH.cons (i:=30) rfl (fun K hK=>?_) ?_
    ·go_simp
     refine hK.out _ _ ?_ (fun hHeld=>?_)
     ·(try dsimp only)
      first|done|go_keep|(refine⟨?_,?_⟩<;>(rw[World.cell?_setCell_other _ _ _ _ (by simp)];assumption))
     clear hK K
     try simp only[Act.put,List.setIfInBounds_toArray,List.set_cons_zero,List.set_cons_succ]
     refine wpAnyH_done (by kernel_rfl) ?_ _;refine NoPanic.normal ?_;go_wp2_with fail;go_ret;have hz3:=(Blk.set_ (Blk.set_ HZ2.out 4 (.slice ao n' c')) 1 (.int .i64 ((at':Int)+(n:Int))));refine⟨rfl,.slice ao n' c',?_,?_,?_⟩
     ·simpa [ZAt]using hz3
     ·have h:=own_setBlk (i:=1) (own_setBlk (i:=4) HO2.out HZ2.out (by decide) (.slice ao n' c')) (Blk.set_ HZ2.out 4 (.slice ao n' c')) (by decide) (.int .i64 ((at':Int)+(n:Int)));have e:(toksCells (ts++[⟨k,(s.data.toList.drop at').take n,at'⟩]))=toksCells ts++[.int .i64 (k:Int),.string (s.extract at' (at'+n)),.int .i64 (at':Int)]:=by
       rw[toksCells_push,Tok.cells];have:(⟨((s.data.toList.drop at').take n).toArray⟩:ByteArray)=s.extract at' (at'+n):=by
        rw[←mk_data (s.extract at' (at'+n)),Lib.extract_data,show at'+n-at'=n by omega]
       rw[this]
      rw[e,List.length_append];exact h
     ·have hlt:=HZ.out.lt;have hb:=((Below.refl base w).drew).grown HG2.out (Nat.le_of_lt (Nat.lt_of_le_of_lt hbp hlt)) (fun g hg=>(HO.out.lt g hg).1);exact(hb.setCell (p:=⟨p,4,none⟩) hbp _).setCell (p:=⟨p,1,none⟩) hbp _
    exact AllReadyH.nil
   exact AllReadyH.nil
  exact AllReadyH.nil
 refine AllReadyH.cons (i:=26) rfl (fun K hK=>?_) ?_
 ·go_simp
  refine hK.out _ _ ?_ (fun hHeld=>?_)
  ·(try dsimp only)
   first|done|go_keep|(refine⟨?_,?_⟩<;>(rw[World.cell?_setCell_other _ _ _ _ (by simp)];assumption))
  clear hK K
  try simp only[Act.put,List.setIfInBounds_toArray,List.set_cons_zero,List.set_cons_succ]
  refine wpAnyH_ready (rs:=[4]) (by kernel_rfl) (by simp) ?_;refine AllReadyH.cons (i:=4) rfl (fun K hK=>?_) ?_
  ·go_simp
   refine hK.out _ _ ?_ (fun hHeld=>?_)
   ·(try dsimp only)
    first|done|go_keep|(refine⟨?_,?_⟩<;>(rw[World.cell?_setCell_other _ _ _ _ (by simp)];assumption))
   clear hK K
   try simp only[Act.put,List.setIfInBounds_toArray,List.set_cons_zero,List.set_cons_succ]
   refine wpAnyH_ready (rs:=[27]) (by kernel_rfl) (by simp) ?_;refine AllReadyH.cons (i:=27) rfl (fun K hK=>?_) ?_
   ·refine step_push (w0:=w.drew) rfl (.tmp 11) (.tmp 33) 77 rfl base 81 (.agg #[.int .i64 0,.string ⟨#[]⟩,.int .i64 0]) 3 32 info_tok Tryz.underlying77 rfl (by omega) v _ _ (by rfl) HO.out [.int .i64 (k:Int),.string (s.extract at' (at'+n)),.int .i64 (at':Int)] rfl (by rfl) (by intro u hu;simp at hu;rcases hu with rfl|rfl|rfl<;>rfl) (by unfold maxLen;omega) (by omega) (Nat.le_of_lt (Nat.lt_of_le_of_lt hbp HZ.out.lt)) ?_;intro v' w' ho hg;obtain⟨ao,n',c',rfl⟩:=own_form ho;have hz2:=put_kept HZ.out HO.out hg;have d4:w'.cell? ⟨p,4,none⟩=some v:=(hz2.cell 4).trans rfl;have f4:w'.frozen? ⟨p,4,none⟩=false:=hz2.frozen 4;have f1:w'.frozen? ⟨p,1,none⟩=false:=hz2.frozen 1;have d0:w'.cell? ⟨p,0,none⟩=some (.string s):=(hz2.cell 0).trans rfl;have d1:w'.cell? ⟨p,1,none⟩=some (.int .i64 (at':Int)):=(hz2.cell 1).trans rfl;have HZ2:=Lib.hid hz2;have HO2:=Lib.hid ho;have HG2:=Lib.hid hg;clear hz2 ho hg;refine hK.out _ _ ?_ (fun hHeld=>?_)
    ·(try dsimp only)
     first|done|go_keep|(refine⟨?_,?_⟩<;>(rw[World.cell?_setCell_other _ _ _ _ (by simp)];assumption))
    clear hK K
    try simp only[Act.put,List.setIfInBounds_toArray,List.set_cons_zero,List.set_cons_succ]
    refine wpAnyH_take (i:=28) (v:=?_) rfl (by kernel_rfl) (by kernel_rfl) (by kernel_rfl) (fun _ _ _ h=>h) (Or.inl ⟨by rfl,?_⟩) (by assumption) ?_
    rotate_left
    ·intro w hSw
     try dsimp only at hSw
     go_simp
     first|done|(with_reducible rfl)
    try simp only[Act.put,List.setIfInBounds_toArray,List.set_cons_zero,List.set_cons_succ]
    refine wpAnyH_take (i:=29) (v:=?_) rfl (by kernel_rfl) (by kernel_rfl) (by kernel_rfl) (fun _ _ _ h=>h) (Or.inl ⟨by rfl,?_⟩) (by assumption) ?_
    rotate_left
    ·intro w hSw
     try dsimp only at hSw
     go_simp
     first|done|(with_reducible rfl)
    try simp only[Act.put,List.setIfInBounds_toArray,List.set_cons_zero,List.set_cons_succ]
    refine wpAnyH_ready (rs:=[30]) (by kernel_rfl) (by simp) ?_;refine AllReadyH.cons (i:=30) rfl (fun K hK=>?_) ?_
    ·go_simp
     refine hK.out _ _ ?_ (fun hHeld=>?_)
     ·(try dsimp only)
      first|done|go_keep|(refine⟨?_,?_⟩<;>(rw[World.cell?_setCell_other _ _ _ _ (by simp)];assumption))
     clear hK K
     try simp only[Act.put,List.setIfInBounds_toArray,List.set_cons_zero,List.set_cons_succ]
     refine wpAnyH_done (by kernel_rfl) ?_ _;refine NoPanic.normal ?_;go_wp2_with fail;go_ret;have hz3:=(Blk.set_ (Blk.set_ HZ2.out 4 (.slice ao n' c')) 1 (.int .i64 ((at':Int)+(n:Int))));refine⟨rfl,.slice ao n' c',?_,?_,?_⟩
     ·simpa [ZAt]using hz3
     ·have h:=own_setBlk (i:=1) (own_setBlk (i:=4) HO2.out HZ2.out (by decide) (.slice ao n' c')) (Blk.set_ HZ2.out 4 (.slice ao n' c')) (by decide) (.int .i64 ((at':Int)+(n:Int)));have e:(toksCells (ts++[⟨k,(s.data.toList.drop at').take n,at'⟩]))=toksCells ts++[.int .i64 (k:Int),.string (s.extract at' (at'+n)),.int .i64 (at':Int)]:=by
       rw[toksCells_push,Tok.cells];have:(⟨((s.data.toList.drop at').take n).toArray⟩:ByteArray)=s.extract at' (at'+n):=by
        rw[←mk_data (s.extract at' (at'+n)),Lib.extract_data,show at'+n-at'=n by omega]
       rw[this]
      rw[e,List.length_append];exact h
     ·have hlt:=HZ.out.lt;have hb:=((Below.refl base w).drew).grown HG2.out (Nat.le_of_lt (Nat.lt_of_le_of_lt hbp hlt)) (fun g hg=>(HO.out.lt g hg).1);exact(hb.setCell (p:=⟨p,4,none⟩) hbp _).setCell (p:=⟨p,1,none⟩) hbp _
    exact AllReadyH.nil
   exact AllReadyH.nil
  exact AllReadyH.nil
 exact AllReadyH.nil
end Go.Proofs.YtibcjfjacielbaaGreatDoor
