import Derived.Test.YtibcjfjacielbaaGreatDoorP03
/- Part of the proof of YtibcjfjacielbaaGreatDoorCardP: UtfB UtfC UtfD. -/
set_option maxRecDepth 100000
set_option maxHeartbeats 4000000
set_option linter.unusedVariables false
set_option linter.unusedSimpArgs false
namespace Go.Proofs.YtibcjfjacielbaaGreatDoor
open Go.RowKit
theorem utf_literal (s:ByteArray) (i:Nat) (w:World) (hs:s.size≤281474976710656):
  Calls Tryz.prog 147 #[.string s,.int .i64 (i:Int)] w fun e w'=>e= .returned (.tuple #[.int .i64 (optN (litEnd s.data.toList i)),.int .i64 (optE 10 (litEnd s.data.toList i))])∧w=w':=by
 by_cases hi:i<s.size
 ·have hil:i<s.data.toList.length:=by rw[len_data];exact hi
  have hat:=atB_lt hi;by_cases hq:isQuote s[i]=true
  ·have hT:LitRel s s[i] (litEnd s.data.toList i) (i+1):=by
    refine⟨by omega,?_⟩;rw[litEnd,if_pos ⟨hil,by rw[hat];exact hq⟩,hat];rfl
   by_cases h96:s[i]=96
   ·have e:s[i].toNat=96:=by rw[h96];rfl
    exact utf_literal_raw s i w hs hi _ hT h96 (by rw[bne_iff_ne];omega) (by rw[bne_iff_ne];omega) (by rw[e];rfl) (by rw[e];rfl)
   ·have e:s[i].toNat=34∨s[i].toNat=39:=by
     simp only[isQuote,Bool.or_eq_true,beq_iff_eq]at hq;rcases hq with(h|h)|h
     ·left;rw[h];rfl
     ·right;rw[h];rfl
     ·exact absurd h h96
    rcases e with e|e
    ·exact utf_literal_esc s i w hs hi _ hT h96 false true (by rw[e];rfl) (by rw[e];rfl) (by rw[e];rfl) rfl
    ·exact utf_literal_esc s i w hs hi _ hT h96 true false (by rw[e];rfl) (by rw[e];rfl) (by rw[e];rfl) rfl
  ·have hT:litEnd s.data.toList i=none:=by rw[litEnd,if_neg];rw[hat];exact fun h=>hq h.2
   rw[hT];have h1:s[i].toNat≠34:=fun e=>hq (by simp[isQuote,u8_lit (n:=34) (by omega) e])
   have h2:s[i].toNat≠39:=fun e=>hq (by simp[isQuote,u8_lit (n:=39) (by omega) e])
   have h3:s[i].toNat≠96:=fun e=>hq (by simp[isQuote,u8_lit (n:=96) (by omega) e])
   exact utf_literal_no s i w hi (by omega) (by omega) (by omega)
 ·have hT:litEnd s.data.toList i=none:=by rw[litEnd,if_neg];rw[len_data];exact fun h=>hi h.1
  rw[hT];exact utf_literal_out s i w (by omega)
def digI (c:UInt8):Int:=match digVal c with|some d=>d|none=> -1
theorem utf_digit (c:UInt8) (w:World):
  Calls Tryz.prog 266 #[.int .u8 (c.toNat:Int)] w fun e w'=>e= .returned (.int .i32 (digI c))∧w=w':=by
 by_cases h1:48≤c.toNat∧c.toNat≤57
 ·have hf:=Lib.hid (show digI c=(c.toNat:Int)-48 by rw[digI,digVal,if_pos h1];simp;omega);obtain⟨h1,h2⟩:=h1;go_enter Tryz.func266,Tryz.ntmps266;go_wp2_with fail;go_ret;exact⟨ret_int (by rw[hf.out]),rfl⟩
 ·by_cases h2:97≤c.toNat∧c.toNat≤102
  ·have hf:=Lib.hid (show digI c=(c.toNat:Int)-97+10 by rw[digI,digVal,if_neg h1,if_pos h2];simp;omega);obtain⟨h2,h3⟩:=h2;clear h1;go_enter Tryz.func266,Tryz.ntmps266;go_wp2_with fail;go_ret;exact⟨ret_int (by rw[hf.out]),rfl⟩
  ·by_cases h3:65≤c.toNat∧c.toNat≤70
   ·have hf:=Lib.hid (show digI c=(c.toNat:Int)-65+10 by rw[digI,digVal,if_neg h1,if_neg h2,if_pos h3];simp;omega);obtain⟨h3,h4⟩:=h3;clear h1 h2;go_enter Tryz.func266,Tryz.ntmps266;go_wp2_with fail;go_ret;exact⟨ret_int (by rw[hf.out]),rfl⟩
   ·have hf:=Lib.hid (show digI c= -1 by rw[digI,digVal,if_neg h1,if_neg h2,if_neg h3]);have hc:c.toNat<48∨(57<c.toNat∧c.toNat<65)∨(70<c.toNat∧c.toNat<97)∨102<c.toNat:=by omega
    clear h1 h2 h3;rcases hc with h|⟨h,h'⟩|⟨h,h'⟩|h
    all_goals
     go_enter Tryz.func266,Tryz.ntmps266;go_wp2_with fail;go_ret;exact⟨ret_int (by rw[hf.out]),rfl⟩
theorem utf_plain (c:UInt8) (w:World):
  Calls Tryz.prog 244 #[.int .u8 (c.toNat:Int)] w fun e w'=>e= .returned (.int .u8 ((plainB c).toNat:Int))∧w=w':=by
 have key: ∀n:Nat,n<256→c.toNat=n→c=UInt8.ofNat n:=fun n hn h=>u8_lit hn h
 by_cases h:c.toNat=97∨c.toNat=98∨c.toNat=116∨c.toNat=110∨c.toNat=118∨c.toNat=102
 ·rcases h with h|h|h|h|h|h
  all_goals
   have hc:=key _ (by omega) h;clear key h;subst hc;go_enter Tryz.func244,Tryz.ntmps244;go_wp2_with fail;go_ret;exact⟨rfl,rfl⟩
 ·have hf:=Lib.hid (show plainB c=13 by
   have n1:c≠97:=fun e=>h (by rw[e];decide)
   have n2:c≠98:=fun e=>h (by rw[e];decide)
   have n3:c≠116:=fun e=>h (by rw[e];decide)
   have n4:c≠110:=fun e=>h (by rw[e];decide)
   have n5:c≠118:=fun e=>h (by rw[e];decide)
   have n6:c≠102:=fun e=>h (by rw[e];decide)
   simp[plainB,n1,n2,n3,n4,n5,n6])
  have a1:((c.toNat:Int)==97)=false:=by rw[beq_eq_false_iff_ne];omega
  have a2:((c.toNat:Int)==98)=false:=by rw[beq_eq_false_iff_ne];omega
  have a3:((c.toNat:Int)==116)=false:=by rw[beq_eq_false_iff_ne];omega
  have a4:((c.toNat:Int)==110)=false:=by rw[beq_eq_false_iff_ne];omega
  have a5:((c.toNat:Int)==118)=false:=by rw[beq_eq_false_iff_ne];omega
  have a6:((c.toNat:Int)==102)=false:=by rw[beq_eq_false_iff_ne];omega
  clear key h;go_enter Tryz.func244,Tryz.ntmps244;go_wp2_with fail;go_ret;exact⟨ret_int (by rw[hf.out];rfl),rfl⟩
set_option maxRecDepth 1000000 in
theorem utf_isRune (n:Nat) (w:World):
  Calls Tryz.prog 246 #[.int .i32 (n:Int)] w fun e w'=>e= .returned (.bool (isRuneN n))∧w=w':=by
 go_enter Tryz.func246,Tryz.ntmps246;go_wp2
 all_goals (go_ret;exact⟨ret_bool (by rw[Bool.eq_iff_iff];simp[isRuneN];omega),rfl⟩)
theorem and63 (n:Nat) (h:n<2147483648):bits BinOp.and IntKind.i32 (n:Int) 63=((n%64:Nat):Int):=by
 show IntKind.i32.wrap ((BitVec.ofInt 32 (n:Int)&&&BitVec.ofInt 32 (63:Int)).toNat:Int)=_;have e1:(BitVec.ofInt 32 (n:Int)).toNat=n:=by rw[BitVec.ofInt_natCast,BitVec.toNat_ofNat];exact Nat.mod_eq_of_lt (by omega)
 have e2:(BitVec.ofInt 32 (63:Int)).toNat=2^6-1:=by decide
 rw[BitVec.toNat_and,e1,e2,Nat.and_two_pow_sub_one_eq_mod,IntKind.wrap_i32];omega
theorem or128: ∀x:Fin 64,bits BinOp.or IntKind.u8 128 ((x.val:Nat):Int)=128+((x.val:Nat):Int):=by decide+kernel
theorem utf_tail (n:Nat) (w:World) (hn:n≤1114111):
  Calls Tryz.prog 267 #[.int .i32 (n:Int)] w fun e w'=>e= .returned (.int .u8 ((UInt8.ofNat (128+n%64)).toNat:Int))∧w=w':=by
 have h1:=and63 n (by omega);have h2:=or128 ⟨n%64,Nat.mod_lt _ (by omega)⟩;have h3:((n%64:Nat):Int)%256=((n%64:Nat):Int):=by omega
 have hf:((UInt8.ofNat (128+n%64)).toNat:Int)=128+((n%64:Nat):Int):=by
  rw[UInt8.toNat_ofNat'];omega
 have HF:=Lib.hid hf;clear hf;dsimp only at h2;generalize n%64=m at h1 h2 h3 HF;go_enter Tryz.func267,Tryz.ntmps267;go_wp2;go_ret;exact⟨ret_int (by rw[HF.out];first|done|simp[h1,h2,h3]),rfl⟩
theorem utf_tail' (x:Int) (n:Nat) (hx:x=(n:Int)) (w:World) (hn:n≤1114111):
  Calls Tryz.prog 267 #[.int .i32 x] w fun e w'=>e= .returned (.int .u8 ((UInt8.ofNat (128+n%64)).toNat:Int))∧w=w':=by
 subst hx;exact utf_tail n w hn
theorem wpList_pushN {P:Program} {w0:World} {ops:Array Oper} {rest:List Oper} {o:Oper} {a:Act} {Q:Exit→Act→World→Prop}
  (hg:o.guard=none) (s x:Operand) (t:TypeId) (hop:o.op=Op.call {callee:=Callee.builtin Builtin.append,args:=#[s,x],argTypes:=#[t,t]})
  (base:Nat) (e:TypeId) (z:Value) (size bytes:Nat) (hinfo:(P.info? e).map (fun i=>(i.zero,i.size,i.bytes))=some (some z,size,bytes)) (h1:P.underlying t=some (.slice e)) (hzs:z.cells.size=size) (hsz:0<size)
  (v:Value) (n:Nat) (xs:List Value) (hs:a.eval s=v) (hown:w0.ownsRow base e size v n xs) (m:Nat) (us:List Value) (hus:us.length=m*size)
  (hx:a.eval x= .slice (some ⟨w0.heap.size,0,none⟩) m m) (h1c: ∀u∈us,u.oneCell'=true) (hmax:n+m≤maxLen) (hb:(n+m)*bytes≤140737488355328) (hbase:base≤w0.heap.size)
  (hK: ∀v' w',w'.ownsRow base e size v' (n+m) (xs++us)→w0.grownBy w' v.ownBlock→wpList P ops Q rest (a.put o.dst v') w'):
  wpList P ops Q (o::rest) a (w0.alloc (.cells us.toArray e)):=by
 obtain⟨i,hi,hz,hsi,hby⟩:=info_parts hinfo;refine wpList_append_own _ hg s x t hop base e i z size bytes h1 hi hz hsi hby hzs hsz v n xs hs (hown.alloc _) ⟨w0.heap.size,0,none⟩ m m us hx hus ?_ h1c hmax hb (by simp;omega) ?_
 ·intro j u hu;have hj:j<us.length:=(List.getElem?_eq_some_iff.1 hu).1;rw[Addr.add_lit,Nat.zero_add,World.cell?_alloc_at _ _ _ _ rfl];simpa using hu
 ·intro v' w' ho hgr _;exact hK v' w' ho (grow_trans (World.grownBy_alloc w0 _ _) hgr)
theorem ints1: ∀(l:List Int),∀u∈l.map (Value.int .u8),u.oneCell'=true:=ints_oneCell _
theorem info_u8:(Tryz.prog.info? 5).map (fun i=>(i.zero,i.size,i.bytes))=some (some (.int .u8 0),1,1):=by kernel_rfl
def FormPost (w:World) (v:Value) (base k:Nat) (bs new:List UInt8) (e:Ending) (w':World):Prop:=
 ∃v',e= .returned v'∧w'.ownsRow base 5 1 v' (k+new.length) (cellsOf (bs++new))∧w.grownBy w' v.ownBlock
theorem form_post {w w':World} {v v':Value} {base k:Nat} {bs new:List UInt8} {us:List Int} (m:Nat) (hm:m=new.length) (hown:w'.ownsRow base 5 1 v' (k+m) (cellsOf bs++us.map (Value.int .u8))) (hg:w.grownBy w' v.ownBlock)
  (hu:us=new.map fun c=>(c.toNat:Int)):FormPost w v base k bs new (.returned v') w':=by
 subst hm hu;refine⟨v',rfl,?_,hg⟩;rw[cellsOf_append];simpa [cellsOf,List.map_map,Function.comp_def]using hown
theorem utf_form1 (n:Nat) (w:World) (hn:n<128) (v:Value) (base k:Nat) (bs:List UInt8) (hown:w.ownsRow base 5 1 v k (cellsOf bs)) (hbase:base≤w.heap.size) (hk:k≤281474976710):
  Calls Tryz.prog 247 #[v,.int .i32 (n:Int)] w (FormPost w v base k bs [UInt8.ofNat n]):=by
 go_enter Tryz.func247,Tryz.ntmps247;go_wp2_with (at_builtin;refine wpList_pushN rfl (.tmp 8) (.tmp 11) 142 rfl base 5 (.int .u8 0) 1 1 info_u8 Tryz.underlying142 rfl (by omega) v k _ rfl hown 1 _ rfl rfl (ints1 [(n:Int)]) (by unfold maxLen;omega) (by omega) hbase ?_);intro v' w1 ho hg;have HO:=Lib.hid ho;have HG:=Lib.hid hg;clear ho hg hown;go_wp2_with fail;go_ret;exact form_post (us:=[(n:Int)]) 1 rfl HO.out HG.out (by simp;omega)
theorem utf_form2 (n:Nat) (w:World) (hn:128≤(n:Int)) (hn2:(n:Int)<2048) (v:Value) (base k:Nat) (bs:List UInt8) (hown:w.ownsRow base 5 1 v k (cellsOf bs)) (hbase:base≤w.heap.size) (hk:k≤281474976710):
  Calls Tryz.prog 247 #[v,.int .i32 (n:Int)] w (FormPost w v base k bs [UInt8.ofNat (192+n/64),UInt8.ofNat (128+n%64)]):=by
 go_enter Tryz.func247,Tryz.ntmps247;go_wp2_with (first|(go_at_call 267;refine(utf_tail _ _ (by omega)).mono ?_;rintro e w' ⟨rfl,rfl⟩)|(at_builtin;refine wpList_pushN rfl (.tmp 16) (.tmp 23) 142 rfl base 5 (.int .u8 0) 1 1 info_u8 Tryz.underlying142 rfl (by omega) v k _ rfl hown 2 _ rfl rfl (ints1 [_,_]) (by unfold maxLen;omega) (by omega) hbase ?_));intro v' w1 ho hg;have HO:=Lib.hid ho;have HG:=Lib.hid hg;clear ho hg hown;go_wp2_with fail;go_ret;exact form_post (us:=[192+(n:Int)/64,(128+(n:Int)%64)%256]) 2 rfl HO.out HG.out (by simp;omega)
theorem utf_form3 (n:Nat) (w:World) (hn:2048≤(n:Int)) (hn2:(n:Int)≤65535) (v:Value) (base k:Nat) (bs:List UInt8) (hown:w.ownsRow base 5 1 v k (cellsOf bs)) (hbase:base≤w.heap.size) (hk:k≤281474976710):
  Calls Tryz.prog 247 #[v,.int .i32 (n:Int)] w (FormPost w v base k bs [UInt8.ofNat (224+n/4096),UInt8.ofNat (128+n/64%64),UInt8.ofNat (128+n%64)]):=by
 have ht:((n:Int)<65536)=True:=eq_true (by omega);go_enter Tryz.func247,Tryz.ntmps247;go_wp2_with fail;refine(utf_tail' _ (n/64) (by omega) _ (by omega)).mono ?_;rintro e w' ⟨rfl,rfl⟩;go_wp2_with fail;refine(utf_tail n _ (by omega)).mono ?_;rintro e w' ⟨rfl,rfl⟩;go_wp2_with (at_builtin;refine wpList_pushN rfl (.tmp 28) (.tmp 38) 142 rfl base 5 (.int .u8 0) 1 1 info_u8 Tryz.underlying142 rfl (by omega) v k _ rfl hown 3 _ rfl rfl (ints1 [_,_,_]) (by unfold maxLen;omega) (by omega) hbase ?_);intro v' w1 ho hg;have HO:=Lib.hid ho;have HG:=Lib.hid hg;clear ho hg hown;go_wp2_with fail;go_ret;exact form_post (us:=[224+(n:Int)/4096,(128+(n:Int)/64%64)%256,(128+(n:Int)%64)%256]) 3 rfl HO.out HG.out (by simp;omega)
theorem utf_form4 (n:Nat) (w:World) (hn:65535<(n:Int)) (hn2:(n:Int)≤1114111) (v:Value) (base k:Nat) (bs:List UInt8) (hown:w.ownsRow base 5 1 v k (cellsOf bs)) (hbase:base≤w.heap.size) (hk:k≤281474976710):
  Calls Tryz.prog 247 #[v,.int .i32 (n:Int)] w (FormPost w v base k bs [UInt8.ofNat (240+n/262144),UInt8.ofNat (128+n/4096%64),UInt8.ofNat (128+n/64%64),UInt8.ofNat (128+n%64)]):=by
 have ht:((n:Int)<65536)=False:=eq_false (by omega);go_enter Tryz.func247,Tryz.ntmps247;go_wp2_with fail;refine(utf_tail' _ (n/4096) (by omega) _ (by omega)).mono ?_;rintro e w' ⟨rfl,rfl⟩;go_wp2_with fail;refine(utf_tail' _ (n/64) (by omega) _ (by omega)).mono ?_;rintro e w' ⟨rfl,rfl⟩;go_wp2_with fail;refine(utf_tail n _ (by omega)).mono ?_;rintro e w' ⟨rfl,rfl⟩;go_wp2_with (at_builtin;refine wpList_pushN rfl (.tmp 40) (.tmp 53) 142 rfl base 5 (.int .u8 0) 1 1 info_u8 Tryz.underlying142 rfl (by omega) v k _ rfl hown 4 _ rfl rfl (ints1 [_,_,_,_]) (by unfold maxLen;omega) (by omega) hbase ?_);intro v' w1 ho hg;have HO:=Lib.hid ho;have HG:=Lib.hid hg;clear ho hg hown;go_wp2_with fail;go_ret;exact form_post (us:=[240+(n:Int)/262144,(128+(n:Int)/4096%64)%256,(128+(n:Int)/64%64)%256,(128+(n:Int)%64)%256]) 4 rfl HO.out HG.out (by simp;omega)
theorem utf_form (n:Nat) (w:World) (hn:n≤1114111) (v:Value) (base k:Nat) (bs:List UInt8) (hown:w.ownsRow base 5 1 v k (cellsOf bs)) (hbase:base≤w.heap.size) (hk:k≤281474976710):
  Calls Tryz.prog 247 #[v,.int .i32 (n:Int)] w (FormPost w v base k bs (formB n)):=by
 unfold formB;split
 ·exact utf_form1 n w (by omega) v base k bs hown hbase hk
 ·split
  ·exact utf_form2 n w (by omega) (by omega) v base k bs hown hbase hk
  ·split
   ·exact utf_form3 n w (by omega) (by omega) v base k bs hown hbase hk
   ·exact utf_form4 n w (by omega) (by omega) v base k bs hown hbase hk
theorem digI_some {c:UInt8} {d:Nat} (h:digVal c=some d):digI c=d:=by rw[digI,h]
theorem digI_none {c:UInt8} (h:digVal c=none):digI c= -1:=by rw[digI,h]
theorem digVal_lt {c:UInt8} {d:Nat} (h:digVal c=some d):d<16:=by
 unfold digVal at h
 repeat' split at h
 all_goals simp at h
 all_goals omega
theorem utf_digits (s:ByteArray) (x:Int) (n:Nat) (hx:x=(n:Int)) (b:Int) (base:Nat) (hb:b=(base:Int)) (w:World) (hs:s.size≤281474976710656) (hn:n≤8) (hbase:base=8∨base=16):
  Calls Tryz.prog 245 #[.string s,.int .i64 x,.int .i32 b] w fun e w'=>e= .returned (.tuple #[.int .i32 (optN (digsB s.data.toList n base)),.bool (digsB s.data.toList n base).isSome])∧Below w.heap.size w w':=by
 subst hx hb;by_cases hl:s.size<n
 ·have hT:digsB s.data.toList n base=none:=by rw[digsB,if_pos (by rw[len_data];exact hl)]
  rw[hT];go_enter Tryz.func245,Tryz.ntmps245;go_wp2_with fail;go_ret2;exact⟨rfl,Below.refl _ _⟩
 ·obtain⟨D,hD⟩: ∃D,D=s.data.toList.take n:=⟨_,rfl⟩;have hDl:D.length=n:=by rw[hD,List.length_take,len_data];omega
  have hT:digsB s.data.toList n base=digsGoB base 0 D:=by rw[digsB,if_neg (by rw[len_data];exact hl),hD]
  rw[hT];generalize hT2:digsGoB base 0 D=T;have HX:=Lib.hid hD;have HD:=Lib.hid hDl;have HT:=Lib.hid hT2;have hb1:8≤base∧base≤16:=by omega
  obtain⟨hb1,hb2⟩:=hb1;clear hT hT2 hD hDl hbase;go_enter Tryz.func245,Tryz.ntmps245;go_wp2_with (with_reducible refine wpList_bytes_of_string rfl (.tmp 18) 9 142 5 rfl (s.extract 0 n) rfl Tryz.underlying9 Tryz.underlying142 Tryz.underlying5 ?_);intro cap w1 hcap hb0 hbel1 hsz1;rw[←HX.out]at hb0;have hmin:min n s.size=n:=by omega
  rw[hmin]at hcap ⊢
  clear hmin;go_wp2_with fail;go_loop [8,21] (fun v i=> ∃k vv:Nat,k≤n∧i= .int .i64 k∧v= .int .i32 vv∧vv≤134217727∧Hid (digsGoB base vv (D.drop k)=T)) (fun _ i=>n-(intOf i).toNat)
  case atStart=>exact⟨0,0,Nat.zero_le _,rfl,rfl,by omega,HT.out⟩
  case round=>
   obtain⟨k,vv,hk,rfl,rfl,hvv,hT⟩:=hrel;clear HX HT;by_cases hlt:k<n
   ·have hkD:k<D.length:=by rw[HD.out];exact hlt
    have hc:=hb0.cell hkD;have hcons:D.drop k=D[k]::D.drop (k+1):=List.drop_eq_getElem_cons hkD;have hT2:=hT.out;rw[hcons,digsGoB]at hT2;clear hT;generalize D[k]=c at hc hT2;cases hd:digVal c with
    |none=>
     have hdi:=digI_none hd;rw[hd]at hT2;have HT:=Lib.hid hT2;clear hT2 hd hcons hb0;go_wp2_with (go_at_call 266;refine(utf_digit _ _).mono ?_;rintro e w' ⟨rfl,rfl⟩;rw[hdi]);go_ret2;exact⟨by rw[←HT.out];rfl,hbel1⟩
    |some d=>
     have hdi:=digI_some hd;have hd16:=digVal_lt hd;rw[hd]at hT2;simp only at hT2;by_cases hdb:d<base∧vv≤8388607
     ·rw[if_pos hdb]at hT2;obtain⟨hdb1,hdb2⟩:=hdb;have hmul:vv*base≤8388607*16:=Nat.mul_le_mul hdb2 hb2;have hcast:((vv*base:Nat):Int)=(vv:Int)*(base:Int):=by simp
      have hmul2:(vv:Int)*(base:Int)≤134217712:=by omega
      have hmul3:0≤(vv:Int)*(base:Int):=by omega
      have HC:=Lib.hid hcast;have HM:=Lib.hid hmul;have HT:=Lib.hid hT2;clear hT2 hd hcons hb0 hcast hmul;go_wp2_with (go_at_call 266;refine(utf_digit _ _).mono ?_;rintro e w' ⟨rfl,rfl⟩;rw[hdi]);have hm:=HM.out;have hc2:=HC.out;go_round
      case rel=>exact⟨k+1,vv*base+d,by omega,by go_num,by rw[Int.natCast_add,hc2],by omega,HT.out⟩
      case measure=>simp[intOf];omega
     ·rw[if_neg hdb]at hT2;have HT:=Lib.hid hT2;have hdb':base≤d∨(d<base∧8388607<vv):=by omega
      clear hT2 hd hcons hb0 hdb;rcases hdb' with h|⟨h,h2⟩
      all_goals
       go_wp2_with (go_at_call 266;refine(utf_digit _ _).mono ?_;rintro e w' ⟨rfl,rfl⟩;rw[hdi]);go_ret2;exact⟨by rw[←HT.out];rfl,hbel1⟩
   ·have hT2:=hT.out;rw[List.drop_eq_nil_of_le (by rw[HD.out];omega)]at hT2;have HT:=Lib.hid hT2;clear hT2 hT hb0;go_wp2_with fail;go_ret2;exact⟨by rw[←HT.out];rfl,hbel1⟩
def EscPost (w:World) (v:Value) (base k:Nat) (bs:List UInt8) (r:List UInt8×Nat) (e:Ending) (w':World):Prop:=
 ∃v',e= .returned (.tuple #[v',.int .i64 (r.2:Int)])∧w'.ownsRow base 5 1 v' (k+r.1.length) (cellsOf (bs++r.1))∧w.grownBy w' v.ownBlock
theorem esc_same {w w':World} {v:Value} {base k:Nat} {bs:List UInt8} (hown:w'.ownsRow base 5 1 v k (cellsOf bs)) (hg:w.grownBy w' v.ownBlock):EscPost w v base k bs ([],0) (.returned (.tuple #[v,.int .i64 0])) w':=
 ⟨v,rfl,by simpa using hown,hg⟩
theorem esc_post {w w':World} {v v':Value} {base k:Nat} {bs new:List UInt8} {us:List Int} {n:Nat} {x:Int} (m:Nat) (hm:m=new.length) (hx:x=n) (hown:w'.ownsRow base 5 1 v' (k+m) (cellsOf bs++us.map (Value.int .u8))) (hg:w.grownBy w' v.ownBlock)
  (hu:us=new.map fun c=>(c.toNat:Int)):EscPost w v base k bs (new,n) (.returned (.tuple #[v',.int .i64 x])) w':=by
 subst hm hu hx;refine⟨v',rfl,?_,hg⟩;rw[cellsOf_append];simpa [cellsOf,List.map_map,Function.comp_def]using hown
theorem own_below {w w':World} {base:Nat} {v:Value} {k:Nat} {xs:List Value} (h:w.ownsRow base 5 1 v k xs) (hb:Below w.heap.size w w'):w'.ownsRow base 5 1 v k xs:=
 h.kept (grown_below hb none) (by cases v.ownBlock<;>simp)
theorem ne_facts {s:ByteArray} (h:0<s.size):(s.toList==[])=false∧s.toList.isEmpty=false:=by
 rw[ByteArray.toList_eq];have:0<s.data.toList.length:=by rw[len_data];exact h
 cases hl:s.data.toList with
 |nil=>rw[hl]at this;simp at this
 |cons c r=>exact⟨rfl,rfl⟩
theorem head_eq {s:ByteArray} {c:UInt8} {r:List UInt8} (hl:s.data.toList=c::r) (h0:0<s.size):s[0]=c:=by
 rw[←gl s 0 (by rw[hl];simp)];simp[hl]
theorem tail_eq {s:ByteArray} {c:UInt8} {r:List UInt8} (hl:s.data.toList=c::r):(s.extract 1 s.size).data.toList=r:=by
 rw[extract_from,hl];rfl
theorem utf_escape_nil (q:UInt8) (w:World) (v:Value) (base k:Nat) (bs:List UInt8) (hown:w.ownsRow base 5 1 v k (cellsOf bs)) (hbase:base≤w.heap.size) (hk:k≤281474976710):
  Calls Tryz.prog 205 #[v,.string ⟨#[]⟩,.int .u8 (q.toNat:Int)] w (EscPost w v base k bs ([],0)):=by
 have HO:=Lib.hid hown;clear hown;go_enter Tryz.func205,Tryz.ntmps205;go_wp2_with fail;go_ret2;exact esc_same HO.out (World.grownBy.refl _ _)
structure EscIn (s:ByteArray) (w:World) (v:Value) (base k:Nat) (bs:List UInt8):Prop where
 s:s.size≤281474976710656
 o:w.ownsRow base 5 1 v k (cellsOf bs)
 b:base≤w.heap.size
 k:k≤281474976710
def EscC (s:ByteArray) (q:UInt8) (w:World) (v:Value) (base k:Nat) (bs:List UInt8) (r:List UInt8×Nat):Prop:=
 Calls Tryz.prog 205 #[v,.string s,.int .u8 (q.toNat:Int)] w (EscPost w v base k bs r)
def escK:List Int:=[97,98,116,110,118,102,114,92]
def escL:List Int:=[97,98,116,110,118,102,114,92,120,117,85]
theorem esc_f {x:UInt8} {n:Int} {l:List Int} (h:(x.toNat:Int)=n): ∀t∈l,((x.toNat:Int)==t)=(n==t):=fun t _=>by rw[h]
theorem esc_n {x:UInt8} {l:List Int} (h: ∀t∈l,(x.toNat:Int)≠t): ∀t∈l,((x.toNat:Int)==t)=false:=fun t ht=>beq_eq_false_iff_ne.2 (h t ht)
theorem esc_q {x q:UInt8} (h:x≠q):((x.toNat:Int)==(q.toNat:Int))=false:=by
 rw[beq_eq_false_iff_ne];intro e;exact h (UInt8.toNat_inj.1 (by omega))
theorem escape_plain {s:ByteArray} {q:UInt8} {w:World} {v:Value} {base k:Nat} {bs:List UInt8} (H:EscIn s w v base k bs) (h0:0<s.size) (hv:(s[0].toNat:Int)∈[(97:Int),98,116,110,118,102,114]):EscC s q w v base k bs ([plainB s[0]],1):=by
 obtain⟨hs,hown,hbase,hk⟩:=H;unfold EscC;obtain⟨e1,e2⟩:=ne_facts h0;generalize hp:plainB s[0]=z;simp only[List.mem_cons,List.not_mem_nil,or_false]at hv;rcases hv with hv|hv|hv|hv|hv|hv|hv
 all_goals
  have T:=esc_f (l:=escL) hv;simp only[escK,escL,List.mem_cons,forall_eq_or_imp,List.not_mem_nil,false_imp_iff,implies_true,and_true,Int.reduceBEq]at T;obtain⟨_,_,_,_,_,_,_,_,_,_,_⟩:=T;clear hv;go_enter Tryz.func205,Tryz.ntmps205;go_wp2_with (first|(go_at_call 244;refine(utf_plain _ _).mono ?_;rintro e w' ⟨rfl,rfl⟩;rw[hp])|(at_builtin;refine wpList_pushN rfl (.tmp 45) (.tmp 48) 142 rfl base 5 (.int .u8 0) 1 1 info_u8 Tryz.underlying142 rfl (by omega) v k _ rfl hown 1 _ rfl rfl (ints1 [_]) (by unfold maxLen;omega) (by omega) hbase ?_));intro v' w1 ho hg;have HO:=Lib.hid ho;have HG:=Lib.hid hg;clear ho hg hown;go_wp2_with fail;go_ret2;exact esc_post (us:=[(z.toNat:Int)]) 1 rfl rfl HO.out HG.out rfl
theorem escape_self {s:ByteArray} {q:UInt8} {w:World} {v:Value} {base k:Nat} {bs:List UInt8} (H:EscIn s w v base k bs) (h0:0<s.size) (hv:(s[0].toNat:Int)=92∨(∀t∈escK,(s[0].toNat:Int)≠t)∧s[0]=q):EscC s q w v base k bs ([s[0]],1):=by
 obtain⟨hs,hown,hbase,hk⟩:=H;unfold EscC;obtain⟨e1,e2⟩:=ne_facts h0;have T:(∀t∈escK,((s[0].toNat:Int)==t)=(92==t))∨(∀t∈escK,((s[0].toNat:Int)==t)=false)∧((s[0].toNat:Int)==(q.toNat:Int))=true:=hv.imp esc_f fun h=>⟨esc_n h.1,by rw[h.2];simp⟩
 clear hv;rcases T with T|⟨T,tq⟩
 all_goals
  simp only[escK,escL,List.mem_cons,forall_eq_or_imp,List.not_mem_nil,false_imp_iff,implies_true,and_true,Int.reduceBEq]at T;obtain⟨_,_,_,_,_,_,_,_⟩:=T;go_enter Tryz.func205,Tryz.ntmps205;go_wp2_with (at_builtin;refine wpList_pushN rfl (.tmp 54) (.tmp 56) 142 rfl base 5 (.int .u8 0) 1 1 info_u8 Tryz.underlying142 rfl (by omega) v k _ rfl hown 1 _ rfl rfl (ints1 [_]) (by unfold maxLen;omega) (by omega) hbase ?_);intro v' w1 ho hg;have HO:=Lib.hid ho;have HG:=Lib.hid hg;clear ho hg hown;go_wp2_with fail;go_ret2;exact esc_post (us:=[(s[0].toNat:Int)]) 1 rfl rfl HO.out HG.out rfl
theorem escape_hex {s:ByteArray} {q:UInt8} {w:World} {v:Value} {base k:Nat} {bs:List UInt8} (H:EscIn s w v base k bs) (h0:0<s.size) (hq:s[0]≠q) {N:Nat} (hv:(s[0].toNat:Int)=120∧N=2∨(s[0].toNat:Int)=117∧N=4∨(s[0].toNat:Int)=85∧N=8) {D:Option Nat} (hd:digsB (s.extract 1 s.size).data.toList N 16=D) {r:List UInt8×Nat}
  (hr:D=none∧r=([],0)∨(∃V,D=some V∧N=2∧V<256∧r=([UInt8.ofNat V],3))∨(∃V:Nat,D=some V∧N≠2∧isRuneN V=false∧(V:Int)≤134217727∧r=([],0))∨ ∃V,D=some V∧N≠2∧isRuneN V=true∧r=(formB V,N+1)):EscC s q w v base k bs r:=by
 obtain⟨hs,hown,hbase,hk⟩:=H;unfold EscC;obtain⟨e1,e2⟩:=ne_facts h0;have tq:=esc_q hq;have HX:Hid ((s.extract 1 s.size).size≤281474976710656):=Lib.hid (by simp;omega);have HR:=Lib.hid hr;have HD:=Lib.hid hd;clear hq hr hd;rcases hv with⟨hv,hN⟩|⟨hv,hN⟩|⟨hv,hN⟩
 all_goals
  have T:=esc_f (l:=escL) hv;simp only[escK,escL,List.mem_cons,forall_eq_or_imp,List.not_mem_nil,false_imp_iff,implies_true,and_true,Int.reduceBEq]at T;obtain⟨_,_,_,_,_,_,_,_,_,_,_⟩:=T;clear hv;go_enter Tryz.func205,Tryz.ntmps205;go_wp2_with fail;refine(utf_digits (s.extract 1 s.size) _ N (by omega) _ 16 (by omega) _ HX.out (by omega) (.inr rfl)).mono ?_;rintro e w1 ⟨rfl,hb⟩;rw[HD.out];have hown1:=own_below hown hb;have hbase1:=Nat.le_trans hbase hb.size;have HB:=Lib.hid hb;clear hown hb HX;rcases HR.out with⟨rfl,rfl⟩|⟨V,rfl,hn,hV,rfl⟩|⟨V,rfl,hn,hV,hV2,rfl⟩|⟨V,rfl,hn,hV,rfl⟩
  all_goals clear HR HD
  all_goals simp only[optN,Option.isSome]
  ·have HOW:=Lib.hid hown1;clear hown1;go_wp2_with fail;go_ret2;exact esc_same HOW.out (grown_below HB.out _)
  ·first
   |(exfalso;omega)
   |skip
    go_wp2_with (at_builtin;refine wpList_pushN rfl (.tmp 67) (.tmp 70) 142 rfl base 5 (.int .u8 0) 1 1 info_u8 Tryz.underlying142 rfl (by omega) v k _ rfl hown1 1 _ rfl rfl (ints1 [_]) (by unfold maxLen;omega) (by omega) hbase1 ?_);intro v' w2 ho hg;have HO:=Lib.hid ho;have HG:=Lib.hid hg;clear ho hg hown1;go_wp2_with fail;go_ret2;exact esc_post (us:=[(V:Int)]) 1 rfl rfl HO.out (grow_trans (grown_below HB.out _) HG.out) (by simp;omega)
  all_goals first
   |(exfalso;omega)
   |skip
    have HOW:=Lib.hid hown1;have HR:=Lib.hid hV;clear hown1;go_wp2_with fail;refine(utf_isRune V _).mono ?_;rintro e w' ⟨rfl,rfl⟩;rw[hV];clear hV;go_wp2_with fail
    first
    |go_ret2
     exact esc_same HOW.out (grown_below HB.out _)
    |refine(utf_form V _ (isRuneN_le HR.out) v base k bs HOW.out hbase1 hk).mono ?_
     rintro e w2 ⟨v',rfl,ho,hg⟩;have HO:=Lib.hid ho;have HG:=Lib.hid hg;clear ho hg;go_wp2_with fail;go_ret2;exact⟨v',by subst hN;rfl,HO.out,grow_trans (grown_below HB.out _) HG.out⟩
theorem escape_oct {s:ByteArray} {q:UInt8} {w:World} {v:Value} {base k:Nat} {bs:List UInt8} (H:EscIn s w v base k bs) (h0:0<s.size) (hq:s[0]≠q) (hn: ∀t∈escL,(s[0].toNat:Int)≠t) {D:Option Nat} (hd:digsB s.data.toList 3 8=D) {r:List UInt8×Nat}
  (hr:D=none∧r=([],0)∨(∃V:Nat,D=some V∧255<(V:Int)∧r=([],0))∨ ∃V:Nat,D=some V∧(V:Int)≤255∧r=([UInt8.ofNat V],3)):EscC s q w v base k bs r:=by
 obtain⟨hs,hown,hbase,hk⟩:=H;unfold EscC;obtain⟨e1,e2⟩:=ne_facts h0;have tq:=esc_q hq;have HD:=Lib.hid hd;have T:=esc_n hn;simp only[escK,escL,List.mem_cons,forall_eq_or_imp,List.not_mem_nil,false_imp_iff,implies_true,and_true,Int.reduceBEq]at T;obtain⟨_,_,_,_,_,_,_,_,_,_,_⟩:=T;clear hq hd hn;have HR:=Lib.hid hr;clear hr;go_enter Tryz.func205,Tryz.ntmps205;go_wp2_with fail;refine(utf_digits s _ 3 (by omega) _ 8 (by omega) _ hs (by omega) (.inl rfl)).mono ?_;rintro e w1 ⟨rfl,hb⟩;rw[HD.out];have hown1:=own_below hown hb;have hbase1:=Nat.le_trans hbase hb.size;have HB:=Lib.hid hb;clear hown hb;rcases HR.out with⟨rfl,rfl⟩|⟨V,rfl,hV,rfl⟩|⟨V,rfl,hV,rfl⟩
 all_goals clear HR HD
 all_goals simp only[optN,Option.isSome]
 rotate_right
 ·go_wp2_with (at_builtin;refine wpList_pushN rfl (.tmp 32) (.tmp 35) 142 rfl base 5 (.int .u8 0) 1 1 info_u8 Tryz.underlying142 rfl (by omega) v k _ rfl hown1 1 _ rfl rfl (ints1 [_]) (by unfold maxLen;omega) (by omega) hbase1 ?_);intro v' w2 ho hg;have HO:=Lib.hid ho;have HG:=Lib.hid hg;clear ho hg hown1;go_wp2_with fail;go_ret2;exact esc_post (us:=[(V:Int)]) 1 rfl rfl HO.out (grow_trans (grown_below HB.out _) HG.out) (by simp;omega)
 all_goals
  have HOW:=Lib.hid hown1;clear hown1;go_wp2_with fail;go_ret2;exact esc_same HOW.out (grown_below HB.out _)
theorem digsGoB_le {base:Nat} (hb:base≤16): ∀{l:List UInt8} {v r:Nat},digsGoB base v l=some r→v≤134217727→r≤134217727
 |[],v,r,h,hv=>by simp[digsGoB]at h;omega
 |c::l,v,r,h,hv=>by
  simp only[digsGoB]at h;cases hd:digVal c with
  |none=>rw[hd]at h;simp at h
  |some d=>
   rw[hd]at h;simp only at h;split at h
   ·rename_i hx;have:v*base≤8388607*16:=Nat.mul_le_mul hx.2 hb;exact digsGoB_le hb h (by omega)
   ·simp at h
theorem digsB_le {l:List UInt8} {n base V:Nat} (h:digsB l n base=some V) (hb:base≤16):(V:Int)≤134217727:=by
 unfold digsB at h;split at h
 ·simp at h
 ·have:=digsGoB_le hb h (by omega);omega
theorem utf_escape (s : ByteArray) (q : UInt8) (w : World) (hs : s.size ≤ 281474976710656) (v : Value) (base k : Nat) (bs : List UInt8) (hown : w.ownsRow base 5 1 v k (cellsOf bs)) (hbase : base ≤ w.heap.size) (hk : k ≤ 281474976710) :
    Calls Tryz.prog 205 #[v,.string s,.int .u8 (q.toNat:Int)] w (EscPost w v base k bs (escB q s.data.toList)):=by
  cases hl:s.data.toList with
  | nil =>
    have:s=⟨#[]⟩:=by rw[←mk_data s,hl]
    subst this
    exact utf_escape_nil q w v base k bs hown hbase hk
  | cons c r =>
    have h0:0<s.size:=by rw[←len_data,hl];simp
    have hc:=head_eq hl h0
    have ht:=tail_eq hl
    have H:EscIn s w v base k bs:=⟨hs,hown,hbase,hk⟩
    have hi: ∀n:Nat,n<256→c≠UInt8.ofNat n→(s[0].toNat:Int)≠(n:Int):=fun n hn h e=>h (by rw[←hc];exact u8_lit hn (Int.ofNat.inj e))
    by_cases hp:isPlain c=true
    · rw [esc_plain hp, ← hc]
      refine escape_plain H h0 ?_
      rw[hc]
      have e:c=97∨c=98∨c=116∨c=110∨c=118∨c=102∨c=114:=by simpa [isPlain,or_assoc]using hp
      rcases e with e|e|e|e|e|e|e<;>(rw[e];decide)
    · have hp' : isPlain c = false := by simpa using hp
      have np:c≠97∧c≠98∧c≠116∧c≠110∧c≠118∧c≠102∧c≠114:=by simpa [isPlain,and_assoc]using hp'
      obtain⟨n1,n2,n3,n4,n5,n6,n7⟩:=np
      by_cases h92:c=92
      · rw [esc_self hp' (.inl h92), ← hc]
        exact escape_self H h0 (.inl (by rw[hc,h92];rfl))
      · by_cases hq : c = q
        · rw [esc_self hp' (.inr hq), ← hc]
          refine escape_self H h0 (.inr ⟨?_,by rw[hc,hq]⟩)
          simp only[escK,List.mem_cons,forall_eq_or_imp,List.not_mem_nil,false_imp_iff,implies_true,and_true]
          exact⟨hi 97 (by decide) n1,hi 98 (by decide) n2,hi 116 (by decide) n3,hi 110 (by decide) n4,hi 118 (by decide) n5,hi 102 (by decide) n6,hi 114 (by decide) n7,hi 92 (by decide) h92⟩
        · have hq' : s[0] ≠ q := by rw [hc]; exact hq
          by_cases h120:c=120
          · rw [esc_x h120 hq, ← ht]
            refine escape_hex H h0 hq' (.inl ⟨by rw[hc,h120];rfl,rfl⟩) rfl ?_
            cases hd:digsB (s.extract 1 s.size).data.toList 2 16 with
            | none => exact .inl ⟨rfl, rfl⟩
            | some V => exact .inr (.inl ⟨V, rfl, rfl, by rw [digsB_16_2] at hd; exact digs_lt (by omega) hd, rfl⟩)
          · have hx : ∀ N, N = 4 ∧ c = 117 ∨ N = 8 ∧ c = 85 → EscC s q w v base k bs (match digsB r N 16 with | some v => if isRuneN v then (formB v, N + 1) else ([], 0) | none => ([], 0)) := by
              intro N hN
              have hv:(s[0].toNat:Int)=117∧N=4∨(s[0].toNat:Int)=85∧N=8:=hN.imp (fun h=>⟨by rw[hc,h.2];rfl,h.1⟩) fun h=>⟨by rw[hc,h.2];rfl,h.1⟩
              refine escape_hex H h0 hq' (.inr hv) rfl ?_
              rw[ht]
              cases hd:digsB r N 16 with
              | none => exact .inl ⟨rfl, rfl⟩
              | some V => cases hr : isRuneN V
                          · exact .inr (.inr (.inl ⟨V, rfl, by omega, hr, digsB_le hd (by omega), by simp [hr]⟩))
                          · exact .inr (.inr (.inr ⟨V, rfl, by omega, hr, by simp [hr]⟩))
            by_cases h117:c=117
            · rw [esc_u h117 hq]
              exact hx 4 (.inl ⟨rfl,h117⟩)
            · by_cases h85 : c = 85
              · rw [esc_U h85 hq]
                exact hx 8 (.inr ⟨rfl,h85⟩)
              · rw [esc_oct hp' h92 hq h120 h117 h85, ← hl]
                refine escape_oct H h0 hq' ?_ rfl ?_
                · simp only [escL, List.mem_cons, forall_eq_or_imp, List.not_mem_nil, false_imp_iff, implies_true, and_true]
                  exact⟨hi 97 (by decide) n1,hi 98 (by decide) n2,hi 116 (by decide) n3,hi 110 (by decide) n4,hi 118 (by decide) n5,hi 102 (by decide) n6,hi 114 (by decide) n7,hi 92 (by decide) h92,hi 120 (by decide) h120,hi 117 (by decide) h117,hi 85 (by decide) h85⟩
                · cases hd : digsB s.data.toList 3 8 with
                  | none => exact .inl ⟨rfl, rfl⟩
                  | some V =>
                    by_cases hV:V≤255
                    · exact .inr (.inr ⟨V, rfl, by omega, by simp [hV]⟩)
                    · exact .inr (.inl ⟨V, rfl, by omega, by simp [hV]⟩)
end Go.Proofs.YtibcjfjacielbaaGreatDoor
