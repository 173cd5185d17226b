import Derived.Test.YtibcjfjacielbaaGreatDoorP01
import Derived.Lib.DecodeN
import Derived.Lib.Strings
import Derived.Test.YtibcjfjacielbaaGreatDoorProg
/- Part of the proof of YtibcjfjacielbaaGreatDoorCardP: PlB PlC PlD PlE UtfA. -/
set_option maxRecDepth 100000
set_option maxHeartbeats 4000000
set_option linter.unusedVariables false
set_option linter.unusedSimpArgs false
namespace Go.Proofs.YtibcjfjacielbaaGreatDoor
open Go.RowKit
def dec (l:List UInt8) (i:Nat):Nat×Nat:=Lib.decodeN (l.length-i) (l.getD i 0).toNat (l.getD (i+1) 0).toNat (l.getD (i+2) 0).toNat (l.getD (i+3) 0).toNat
theorem get_bang (s:ByteArray) (i:Nat):s.get! i=s.data.toList.getD i 0:=by
 cases s with
 |mk d=>
  simp only[ByteArray.get!,List.getD_eq_getElem?_getD,Array.getElem?_toList];rw[getElem!_def];cases d[i]? <;>rfl
theorem dec_eq (s:ByteArray) (i:Nat):Utf8.decode s i=dec s.data.toList i:=by
 rw[Lib.decode_at,dec,get_bang,get_bang,get_bang,get_bang,len_data]
theorem dec_pos (l:List UInt8) (i:Nat):1≤(dec l i).2:=by
 unfold dec Lib.decodeN
 repeat' split
 all_goals simp
theorem dec_w (l:List UInt8) (i:Nat) (h:i<l.length):i+(dec l i).2≤l.length:=by
 unfold dec Lib.decodeN
 repeat' split
 all_goals simp
 all_goals omega
def bad (l:List UInt8) (i:Nat):Bool:=dec l i==(65533,1)
def vAt (l:List UInt8):Nat→Nat→Bool
 |0,_=>true
 |f+1,i=>if i<l.length then(if bad l i then false else vAt l f (i+(dec l i).2))else true
def valid (l:List UInt8):Bool:=vAt l l.length 0
theorem vAt_end (l:List UInt8) (f i:Nat) (h:l.length≤i):vAt l f i=true:=by
 cases f with
 |zero=>rfl
 |succ f=>rw[vAt,if_neg (by omega)]
theorem vAt_fuel (l:List UInt8): ∀(f g i:Nat),l.length-i≤f→l.length-i≤g→vAt l f i=vAt l g i
 |0,g,i,hf,_=>by rw[vAt_end l 0 i (by omega),vAt_end l g i (by omega)]
 |f+1,0,i,_,hg=>by rw[vAt_end l 0 i (by omega),vAt_end l (f+1) i (by omega)]
 |f+1,g+1,i,hf,hg=>by
  rw[vAt,vAt];have:=dec_pos l i;by_cases h:i<l.length
  ·rw[if_pos h,if_pos h,vAt_fuel l f g _ (by omega) (by omega)]
  ·rw[if_neg h,if_neg h]
def vFrom (l:List UInt8) (i:Nat):Bool:=vAt l (l.length-i) i
theorem vFrom_zero (l:List UInt8):vFrom l 0=valid l:=rfl
theorem vFrom_end {l:List UInt8} {i:Nat} (h:l.length≤i):vFrom l i=true:=vAt_end _ _ _ h
theorem vFrom_bad {l:List UInt8} {i:Nat} (h:i<l.length) (hb:bad l i=true):vFrom l i=false:=by
 unfold vFrom;obtain⟨f,hf⟩: ∃f,l.length-i=f+1:=⟨l.length-i-1,by omega⟩;rw[hf,vAt,if_pos h,hb];rfl
theorem vFrom_step {l:List UInt8} {i:Nat} (h:i<l.length) (hb:bad l i=false):vFrom l (i+(dec l i).2)=vFrom l i:=by
 unfold vFrom;obtain⟨f,hf⟩: ∃f,l.length-i=f+1:=⟨l.length-i-1,by omega⟩;rw[hf,vAt,if_pos h,hb];have:=dec_pos l i;exact vAt_fuel l _ _ _ (by omega) (by omega)
def repl (l:List UInt8) (i:Nat):Bool:=(l.drop i).take 3==[239,191,189]
theorem drop3 (l:List UInt8) (i:Nat) (h:i+3≤l.length):(l.drop i).take 3=[l.getD i 0,l.getD (i+1) 0,l.getD (i+2) 0]:=by
 apply List.ext_getElem
 ·simp;omega
 ·intro j h1 h2;simp at h2;simp only[List.getElem_take,List.getElem_drop]
  match j,h2 with
  |0,_=>simp[List.getD_eq_getElem?_getD,List.getElem?_eq_getElem (show i<l.length by omega)]
  |1,_=>simp[List.getD_eq_getElem?_getD,List.getElem?_eq_getElem (show i+1<l.length by omega)]
  |2,_=>simp[List.getD_eq_getElem?_getD,List.getElem?_eq_getElem (show i+2<l.length by omega)]
theorem u8_eq {a:UInt8} {n:Nat} (hn:n<256):a=UInt8.ofNat n↔a.toNat=n:=by
 constructor
 ·intro h;subst h;simp;omega
 ·intro h;apply UInt8.toNat_inj.1;simp;omega
theorem getD_pos {l:List UInt8} {i n:Nat} (h:(l.getD i 0).toNat=n) (hn:0<n):i<l.length:=by
 rcases Nat.lt_or_ge i l.length with h'|h'
 ·exact h'
 ·rw[List.getD_eq_getElem?_getD,List.getElem?_eq_none h']at h;simp at h;omega
theorem repl_iff (l:List UInt8) (i:Nat):repl l i=true↔(l.getD i 0).toNat=239∧(l.getD (i+1) 0).toNat=191∧(l.getD (i+2) 0).toNat=189:=by
 unfold repl;rw[beq_iff_eq];constructor
 ·intro h;have hl:i+3≤l.length:=by
   have:=congrArg List.length h;simp at this;omega
  rw[drop3 l i hl]at h;simp only[List.cons.injEq,and_true]at h;obtain⟨h1,h2,h3⟩:=h;rw[h1,h2,h3];decide
 ·rintro⟨h1,h2,h3⟩;have hl:i+2<l.length:=getD_pos h3 (by omega);rw[drop3 l i (by omega),(u8_eq (by omega)).2 h1,(u8_eq (by omega)).2 h2,(u8_eq (by omega)).2 h3];decide
theorem bad_code (l:List UInt8) (i:Nat) (h:i<l.length):bad l i=((dec l i).1==65533&& !repl l i):=by
 have hb1:(l.getD (i+1) 0).toNat<256:=(l.getD (i+1) 0).toNat_lt;have hb2:(l.getD (i+2) 0).toNat<256:=(l.getD (i+2) 0).toNat_lt;have hb0:(l.getD i 0).toNat<256:=(l.getD i 0).toNat_lt;have hr:=repl_iff l i;have hn2:2<l.length-i∨(l.getD (i+2) 0).toNat=0:=by
  rcases Nat.lt_or_ge (i+2) l.length with h'|h'
  ·left;omega
  ·right;rw[List.getD_eq_getElem?_getD,List.getElem?_eq_none h'];rfl
 rw[Bool.eq_iff_iff];simp only[bad,beq_iff_eq,Bool.and_eq_true,Bool.not_eq_true'];rw[Bool.eq_false_iff,ne_eq,hr];unfold dec Lib.decodeN;generalize (l.getD i 0).toNat=b0 at*
 generalize (l.getD (i+1) 0).toNat=b1 at*
 generalize (l.getD (i+2) 0).toNat=b2 at*
 generalize (l.getD (i+3) 0).toNat=b3 at*
 clear hr
 repeat' split
 all_goals (simp only[Prod.mk.injEq];try dsimp only)
 all_goals first|omega|(simp only[true_and,true_iff,not_and];omega)|(simp;omega)
def isRuneN (n:Nat):Bool:=decide (n<55296)||(decide (57344≤n)&&decide (n≤1114111))
def formB (n:Nat):List UInt8:=
 if n<128 then[UInt8.ofNat n]
 else if n<2048 then[UInt8.ofNat (192+n/64),UInt8.ofNat (128+n%64)]
 else if n<65536 then[UInt8.ofNat (224+n/4096),UInt8.ofNat (128+n/64%64),UInt8.ofNat (128+n%64)]
 else[UInt8.ofNat (240+n/262144),UInt8.ofNat (128+n/4096%64),UInt8.ofNat (128+n/64%64),UInt8.ofNat (128+n%64)]
theorem formB_len (n:Nat):1≤(formB n).length∧(formB n).length≤4:=by
 unfold formB;repeat' split
 all_goals simp
def digVal (c:UInt8):Option Nat:=
 if 48≤c.toNat∧c.toNat≤57 then some (c.toNat-48)
 else if 97≤c.toNat∧c.toNat≤102 then some (c.toNat-87)
 else if 65≤c.toNat∧c.toNat≤70 then some (c.toNat-55)else none
def digsGo (base:Nat):Nat→List UInt8→Option Nat
 |v,[]=>some v
 |v,c::r=>match digVal c with
  |some d=>if d<base then digsGo base (v*base+d) r else none
  |none=>none
def digs (l:List UInt8) (n base:Nat):Option Nat:=if l.length<n then none else digsGo base 0 (l.take n)
def digsGoB (base:Nat):Nat→List UInt8→Option Nat
 |v,[]=>some v
 |v,c::r=>match digVal c with
  |some d=>if d<base∧v≤8388607 then digsGoB base (v*base+d) r else none
  |none=>none
def digsB (l:List UInt8) (n base:Nat):Option Nat:=if l.length<n then none else digsGoB base 0 (l.take n)
def litGo (q:UInt8):List UInt8→Option Nat
 |[]=>none
 |[c]=>if c=q then some 1 else none
 |c::d::r=>
  if c=q then some 1
  else if q=96 then(litGo q (d::r)).map (· +1)
  else if c=10 then none
  else if c=92 then(if d=10 then none else(litGo q r).map (· +2))
  else(litGo q (d::r)).map (· +1)
def isQuote (c:UInt8):Bool:=c==34||c==39||c==96
def litEnd (l:List UInt8) (i:Nat):Option Nat:=if i<l.length∧isQuote (atB l i)=true then(litGo (atB l i) (l.drop (i+1))).map (· +(i+1))else none
def litFrom (q:UInt8) (l:List UInt8) (i:Nat):Option Nat:=(litGo q (l.drop i)).map (· +i)
theorem map_add {o:Option Nat} {a b c:Nat} (h:c=a+b):(o.map (· +a)).map (· +b)=o.map (· +c):=by
 cases o<;>simp;omega
theorem litFrom_end {q:UInt8} {l:List UInt8} {i:Nat} (h:l.length≤i):litFrom q l i=none:=by
 rw[litFrom,List.drop_eq_nil_of_le h];rfl
theorem drop_at {l:List UInt8} {i:Nat} (h:i<l.length):l.drop i=atB l i::l.drop (i+1):=by
 rw[List.drop_eq_getElem_cons h,atB,List.getD_eq_getElem?_getD,List.getElem?_eq_getElem h];rfl
theorem litGo_q {q:UInt8} {r:List UInt8}:litGo q (q::r)=some 1:=by
 cases r<;>simp[litGo]
theorem litFrom_hit {q:UInt8} {l:List UInt8} {i:Nat} (h:i<l.length) (hc:atB l i=q):litFrom q l i=some (i+1):=by
 rw[litFrom,drop_at h,hc,litGo_q];simp;omega
theorem litGo_raw {c:UInt8} {r:List UInt8} (hc:c≠96):litGo 96 (c::r)=(litGo 96 r).map (· +1):=by
 cases r<;>simp[litGo,hc]
theorem litFrom_raw {l:List UInt8} {i:Nat} (h:i<l.length) (hc:atB l i≠96):litFrom 96 l i=litFrom 96 l (i+1):=by
 rw[litFrom,drop_at h,litGo_raw hc,map_add (c:=i+1) (by omega)];rfl
theorem litGo_nl {q:UInt8} {r:List UInt8} (h:q≠96) (h2:q≠10):litGo q (10::r)=none:=by
 cases r<;>simp[litGo,h,h2.symm]
theorem litFrom_nl {q:UInt8} {l:List UInt8} {i:Nat} (h:i<l.length) (hq:q≠96) (hq2:atB l i≠q) (hc:atB l i=10):litFrom q l i=none:=by
 rw[litFrom,drop_at h,hc,litGo_nl hq (by rw[←hc];exact hq2.symm)];rfl
theorem litGo_plain {q c:UInt8} {r:List UInt8} (h:q≠96) (h1:c≠q) (h2:c≠10) (h3:c≠92):litGo q (c::r)=(litGo q r).map (· +1):=by
 cases r<;>simp[litGo,h,h1,h2,h3]
theorem litFrom_plain {q:UInt8} {l:List UInt8} {i:Nat} (h:i<l.length) (hq:q≠96) (h1:atB l i≠q) (h2:atB l i≠10) (h3:atB l i≠92):litFrom q l i=litFrom q l (i+1):=by
 rw[litFrom,drop_at h,litGo_plain hq h1 h2 h3,map_add (c:=i+1) (by omega)];rfl
theorem litFrom_esc_end {q:UInt8} {l:List UInt8} {i:Nat} (h:i+1=l.length) (h1:atB l i≠q):litFrom q l i=none:=by
 rw[litFrom,drop_at (by omega),List.drop_eq_nil_of_le (by omega)];simp[litGo,h1]
theorem litFrom_esc_nl {q:UInt8} {l:List UInt8} {i:Nat} (h:i+1<l.length) (hq:q≠96) (h1:atB l i≠q) (h2:atB l i=92) (h3:atB l (i+1)=10):litFrom q l i=none:=by
 rw[litFrom,drop_at (by omega),drop_at h,h3];rw[h2]at h1 ⊢
 simp[litGo,h1,hq]
theorem litFrom_esc {q:UInt8} {l:List UInt8} {i:Nat} (h:i+1<l.length) (hq:q≠96) (h1:atB l i≠q) (h2:atB l i=92) (h3:atB l (i+1)≠10):litFrom q l i=litFrom q l (i+2):=by
 rw[litFrom,drop_at (by omega),drop_at h];rw[h2]at h1 ⊢
 simp only[litGo,if_neg h1,if_neg hq,if_neg (show ¬(92:UInt8)=10 by decide),if_pos,if_neg h3];rw[map_add (c:=i+2) (by omega)];rfl
def plainB (c:UInt8):UInt8:=if c=97 then 7 else if c=98 then 8 else if c=116 then 9 else if c=110 then 10 else if c=118 then 11 else if c=102 then 12 else 13
def isPlain (c:UInt8):Bool:=c==97||c==98||c==116||c==110||c==118||c==102||c==114
def escOut (q:UInt8) (l:List UInt8):Option (List UInt8×Nat):=match l with
 |[]=>none
 |c::r=>
  if isPlain c then some ([plainB c],1)
  else if c=92∨c=q then some ([c],1)
  else if c=120 then(digs r 2 16).map fun v=>([UInt8.ofNat v],3)
  else if c=117 then(digs r 4 16).bind fun v=>if isRuneN v then some (formB v,5)else none
  else if c=85 then(digs r 8 16).bind fun v=>if isRuneN v then some (formB v,9)else none
  else(digs (c::r) 3 8).bind fun v=>if v≤255 then some ([UInt8.ofNat v],3)else none
def unesc (q:UInt8):Nat→List UInt8→Option (List UInt8)
 |0,_=>some []
 |_+1,[]=>some []
 |f+1,c::r=>if c≠92 then(unesc q f r).map (c:: ·)else
  match escOut q r with
  |none=>none
  |some (b,n)=>(unesc q f (r.drop n)).map (b++ ·)
def unquote (l:List UInt8):Nat×List UInt8:=
 if valid l=false then(4,[])
 else if litEnd l 0≠some l.length then(10,[])
 else if atB l 0=96 then(0,(l.drop 1).take (l.length-2))
 else match unesc (atB l 0) l.length ((l.drop 1).take (l.length-2))with
  |none=>(11,[])
  |some b=>if valid b then(0,b)else(13,[])
theorem digsGoB_some {base:Nat}: ∀{l:List UInt8} {v r:Nat},digsGoB base v l=some r→digsGo base v l=some r
 |[],v,r,h=>by simpa [digsGoB,digsGo]using h
 |c::l,v,r,h=>by
  simp only[digsGoB]at h;simp only[digsGo];cases hd:digVal c with
  |none=>rw[hd]at h;simp at h
  |some d=>
   rw[hd]at h;simp only at h ⊢
   by_cases hb:d<base∧v≤8388607
   ·rw[if_pos hb]at h;rw[if_pos hb.1];exact digsGoB_some h
   ·rw[if_neg hb]at h;simp at h
theorem digsGo_ge {base:Nat} (hb:1≤base): ∀{l:List UInt8} {v r:Nat},digsGo base v l=some r→v≤r
 |[],v,r,h=>by simp[digsGo]at h;omega
 |c::l,v,r,h=>by
  simp only[digsGo]at h;cases hd:digVal c with
  |none=>rw[hd]at h;simp at h
  |some d=>
   rw[hd]at h;simp only at h;split at h
   ·have:=digsGo_ge hb h;have h2:v*1≤v*base:=Nat.mul_le_mul_left v hb;omega
   ·simp at h
theorem digsGo_some {base:Nat} (hb:1≤base): ∀{l:List UInt8} {v r:Nat},digsGo base v l=some r→r≤8388607→digsGoB base v l=some r
 |[],v,r,h,_=>by simpa [digsGoB,digsGo]using h
 |c::l,v,r,h,hr=>by
  have hv:=digsGo_ge hb h;simp only[digsGo]at h;simp only[digsGoB];cases hd:digVal c with
  |none=>rw[hd]at h;simp at h
  |some d=>
   rw[hd]at h;simp only at h ⊢
   by_cases hdb:d<base
   ·rw[if_pos hdb]at h;rw[if_pos ⟨hdb,by omega⟩];exact digsGo_some hb h hr
   ·rw[if_neg hdb]at h;simp at h
theorem digsB_eq {l:List UInt8} {n base:Nat} (hb:1≤base) (hn: ∀r,digs l n base=some r→r≤8388607):digsB l n base=digs l n base:=by
 unfold digsB;unfold digs at hn ⊢
 split
 ·rfl
 ·rename_i hl;rw[if_neg hl]at hn;cases h:digsGo base 0 (l.take n)with
  |some r=>exact digsGo_some hb h (hn r h)
  |none=>
   cases h':digsGoB base 0 (l.take n)with
   |none=>rfl
   |some r=>rw[digsGoB_some h']at h;simp at h
theorem digsGo_lt {base:Nat}: ∀{l:List UInt8} {v r:Nat},digsGo base v l=some r→r<(v+1)*base^l.length
 |[],v,r,h=>by simp[digsGo]at h;simp;omega
 |c::l,v,r,h=>by
  simp only[digsGo]at h;cases hd:digVal c with
  |none=>rw[hd]at h;simp at h
  |some d=>
   rw[hd]at h;simp only at h;split at h
   ·rename_i hdb;have:=digsGo_lt h;have h2:v*base+d+1≤(v+1)*base:=by rw[Nat.add_mul];omega
    have h3:=Nat.mul_le_mul_right (base^l.length) h2;rw[List.length_cons,Nat.pow_succ,Nat.mul_comm (base^l.length) base,←Nat.mul_assoc];omega
   ·simp at h
theorem digs_lt {l:List UInt8} {n base r:Nat} (hb:1≤base) (h:digs l n base=some r):r<base^n:=by
 unfold digs at h;split at h
 ·simp at h
 ·have:=digsGo_lt h;have h2:(l.take n).length≤n:=List.length_take_le n l;have h3:=Nat.pow_le_pow_right hb h2;omega
theorem digsB_16_2 (l:List UInt8):digsB l 2 16=digs l 2 16:=digsB_eq (by omega) fun r h=>by have:=digs_lt (by omega) h;omega
theorem digsB_16_4 (l:List UInt8):digsB l 4 16=digs l 4 16:=digsB_eq (by omega) fun r h=>by have:=digs_lt (by omega) h;omega
theorem digsB_8_3 (l:List UInt8):digsB l 3 8=digs l 3 8:=digsB_eq (by omega) fun r h=>by have:=digs_lt (by omega) h;omega
theorem isRuneN_le {n:Nat} (h:isRuneN n=true):n≤1114111:=by simp[isRuneN]at h;omega
theorem digsB_16_8 (l:List UInt8) (F:Nat→Option (List UInt8×Nat)):((digsB l 8 16).bind fun v=>if isRuneN v then F v else none)=((digs l 8 16).bind fun v=>if isRuneN v then F v else none):=by
 unfold digsB digs;split
 ·rfl
 ·cases h:digsGoB 16 0 (l.take 8)with
  |some r=>rw[digsGoB_some h]
  |none=>
   cases h':digsGo 16 0 (l.take 8)with
   |none=>rfl
   |some r=>
    cases hr:isRuneN r
    ·simp[hr]
    ·rw[digsGo_some (by omega) h' (by have:=isRuneN_le hr;omega)]at h;simp at h
def escB (q:UInt8) (l:List UInt8):List UInt8×Nat:=(escOut q l).getD ([],0)
theorem esc_plain {q c:UInt8} {r:List UInt8} (h:isPlain c=true):escB q (c::r)=([plainB c],1):=by simp[escB,escOut,h]
theorem esc_self {q c:UInt8} {r:List UInt8} (h:isPlain c=false) (h2:c=92∨c=q):escB q (c::r)=([c],1):=by simp[escB,escOut,h,h2]
theorem esc_x {q c : UInt8} {r : List UInt8} (hc : c = 120) (hq : c ≠ q) : escB q (c :: r) = match digsB r 2 16 with | some v => ([UInt8.ofNat v], 3) | none => ([], 0) := by
  subst hc
  rw[digsB_16_2]
  have h1 : ¬ ((120 : UInt8) = 92 ∨ (120 : UInt8) = q) := by rintro (h | h); · exact absurd h (by decide)
                                                             · exact hq h
  have h0:isPlain 120=false:=by decide
  unfold escB escOut
  simp only[h0,h1,if_false,if_true,Bool.false_eq_true]
  cases digs r 2 16<;>rfl
theorem esc_u {q c : UInt8} {r : List UInt8} (hc : c = 117) (hq : c ≠ q) : escB q (c :: r) = match digsB r 4 16 with | some v => if isRuneN v then (formB v, 5) else ([], 0) | none => ([], 0) := by
  subst hc
  rw[digsB_16_4]
  have h1 : ¬ ((117 : UInt8) = 92 ∨ (117 : UInt8) = q) := by rintro (h | h); · exact absurd h (by decide)
                                                             · exact hq h
  have h0:isPlain 117=false:=by decide
  have h2: ¬((117:UInt8)=120):=by decide
  unfold escB escOut
  simp only[h0,h1,h2,if_false,if_true,Bool.false_eq_true]
  cases digs r 4 16 with
  | none => rfl
  | some v => cases h : isRuneN v <;> simp [h]
theorem esc_U {q c : UInt8} {r : List UInt8} (hc : c = 85) (hq : c ≠ q) : escB q (c :: r) = match digsB r 8 16 with | some v => if isRuneN v then (formB v, 9) else ([], 0) | none => ([], 0) := by
  subst hc
  have h1 : ¬ ((85 : UInt8) = 92 ∨ (85 : UInt8) = q) := by rintro (h | h); · exact absurd h (by decide)
                                                           · exact hq h
  have h0:isPlain 85=false:=by decide
  have h2: ¬((85:UInt8)=120):=by decide
  have h3: ¬((85:UInt8)=117):=by decide
  unfold escB escOut
  simp only[h0,h1,h2,h3,if_false,if_true,Bool.false_eq_true]
  rw[←digsB_16_8]
  cases digsB r 8 16 with
  | none => rfl
  | some v => cases h : isRuneN v <;> simp [h]
theorem esc_oct {q c : UInt8} {r : List UInt8} (h0 : isPlain c = false) (h1 : c ≠ 92) (hq : c ≠ q) (h2 : c ≠ 120) (h3 : c ≠ 117) (h4 : c ≠ 85) : escB q (c :: r) = match digsB (c :: r) 3 8 with | some v => if v ≤ 255 then ([UInt8.ofNat v], 3) else ([], 0) | none => ([], 0) := by
  rw[digsB_8_3]
  have h5 : ¬ (c = 92 ∨ c = q) := by rintro (h | h); · exact h1 h
                                     · exact hq h
  unfold escB escOut
  simp only[h0,h5,h2,h3,h4,if_false,Bool.false_eq_true]
  cases digs (c::r) 3 8 with
  | none => rfl
  | some v => by_cases h : v ≤ 255 <;> simp [h]
theorem extract_from (s:ByteArray) (k:Nat):(s.extract k s.size).data.toList=s.data.toList.drop k:=by
 rw[Lib.extract_data,List.take_of_length_le (by simp)]
theorem extract_to (s:ByteArray) (k:Nat):(s.extract 0 k).data.toList=s.data.toList.take k:=by
 rw[Lib.extract_data];simp
def uLet:Nat→UInt8
 |0=>121|1=>119|2=>100|3=>104|4=>109|_=>115
def uSize:Nat→Nat
 |0=>31536000000|1=>604800000|2=>86400000|3=>3600000|4=>60000|5=>1000|_=>1
def uOf (c:UInt8):Nat:=if c=121 then 0 else if c=119 then 1 else if c=100 then 2 else if c=104 then 3 else if c=109 then 4 else if c=115 then 5 else 7
def unitAt (l:List UInt8) (i:Nat):Nat×Nat:=
 if l.length≤i then(7,i)
 else if atB l i=109∧i+1<l.length∧atB l (i+1)=115 then(6,i+2)
 else if uOf (atB l i)=7 then(7,i)else(uOf (atB l i),i+1)
def satStep (n:Nat) (c:UInt8):Nat:=min (n*10+(c.toNat-48)) 315360000000001
def satGo (n:Nat) (l:List UInt8):Nat:=l.foldl satStep n
def sat (l:List UInt8):Nat:=satGo 0 l
def partSum (n u sum:Nat):Nat:=if 315360000000000/uSize u<n then 315360000000001 else min (sum+n*uSize u) 315360000000001
def mGo:Nat→List UInt8→Nat→Nat→Nat→Nat×Nat
 |0,_,fin,_,sum=>(fin,sum)
 |f+1,l,fin,next,sum=>
  if spanEnd digit l fin=fin∨(unitAt l (spanEnd digit l fin)).1<next∨(unitAt l (spanEnd digit l fin)).1=7 then(fin,sum)
  else mGo f l (unitAt l (spanEnd digit l fin)).2 ((unitAt l (spanEnd digit l fin)).1+1) (partSum (sat ((l.drop fin).take (spanEnd digit l fin-fin))) (unitAt l (spanEnd digit l fin)).1 sum)
def measure (l:List UInt8):Nat×Nat:=mGo 8 l 0 0 0
def spanPrefix (l:List UInt8):Nat:=(measure l).1
def spanParse (l:List UInt8):Nat×Nat:=
 if 64<l.length then(0,1)
 else if (measure l).1=0∨(measure l).1<l.length then(0,30)
 else if 315360000000000<(measure l).2 then(0,31)else((measure l).2,0)
theorem satGo_cons (n:Nat) (c:UInt8) (r:List UInt8):satGo n (c::r)=satGo (satStep n c) r:=by
 unfold satGo;exact List.foldl_cons ..
theorem satStep_le (n:Nat) (c:UInt8):satStep n c≤315360000000001:=by unfold satStep;exact Nat.min_le_right _ _
theorem satGo_le: ∀(l:List UInt8) (n:Nat),n≤315360000000001→satGo n l≤315360000000001
 |[],n,h=>h
 |c::r,n,_=>by
  have h:=satGo_cons n c r;rw[h];exact satGo_le r _ (satStep_le n c)
theorem sat_le (l:List UInt8):sat l≤315360000000001:=by
 rw[sat];exact satGo_le l 0 (Nat.zero_le _)
theorem uOf_le (c:UInt8):uOf c≤5∨uOf c=7:=by
 unfold uOf
 repeat' split
 all_goals omega
theorem unitAt_ge (l:List UInt8) (i:Nat):i≤(unitAt l i).2∧(i≤l.length→(unitAt l i).2≤l.length)∧((unitAt l i).1≤6∨(unitAt l i).1=7):=by
 unfold unitAt;split
 ·exact⟨Nat.le_refl _,fun h=>h,.inr rfl⟩
 ·split
  ·rename_i h;exact⟨by simp,fun _=>by simp;omega,.inl (by simp)⟩
  ·split
   ·exact⟨Nat.le_refl _,fun h=>h,.inr rfl⟩
   ·rename_i h;have:=uOf_le (atB l i);exact⟨by simp,fun _=>by simp;omega,.inl (by simp;omega)⟩
theorem mGo_le: ∀(f:Nat) (l:List UInt8) (fin next sum:Nat),fin≤l.length→(mGo f l fin next sum).1≤l.length
 |0,_,_,_,_,h=>h
 |f+1,l,fin,next,sum,h=>by
  rw[mGo];split
  ·exact h
  ·exact mGo_le f l _ _ _ ((unitAt_ge l _).2.1 (spanEnd_le digit l fin h))
theorem spanPrefix_le (l:List UInt8):spanPrefix l≤l.length:=mGo_le 8 l 0 0 0 (Nat.zero_le _)
theorem uOf_hit {c:UInt8} {k:Nat} (hk:k<6) (h:uLet k=c):uOf c=k:=by
 subst h
 match k,hk with
 |0,_=>rfl|1,_=>rfl|2,_=>rfl|3,_=>rfl|4,_=>rfl|5,_=>rfl
theorem uOf_miss {c:UInt8} (h: ∀k,k<6→uLet k≠c):uOf c=7:=by
 have h0:=h 0 (by omega);have h1:=h 1 (by omega);have h2:=h 2 (by omega);have h3:=h 3 (by omega);have h4:=h 4 (by omega);have h5:=h 5 (by omega);simp only[uLet]at*
 unfold uOf;rw[if_neg (Ne.symm h0),if_neg (Ne.symm h1),if_neg (Ne.symm h2),if_neg (Ne.symm h3),if_neg (Ne.symm h4),if_neg (Ne.symm h5)]
theorem uSize_pos (u:Nat):1≤uSize u∧uSize u≤31536000000:=by
 unfold uSize;split<;>omega
def hexd (c:UInt8):Bool:=digit c||(97≤c.toNat&&c.toNat≤102)||(65≤c.toNat&&c.toNat≤70)
def isE (c:UInt8):Bool:=c.toNat==101||c.toNat==69
def isPM (c:UInt8):Bool:=c.toNat==43||c.toNat==45
def isX (c:UInt8):Bool:=c.toNat==120||c.toNat==88
def expAt (l:List UInt8) (i:Nat):Nat:=if i+1<l.length∧isPM (atB l (i+1))=true then i+2 else i+1
def expEnd (l:List UInt8) (i:Nat):Nat:=
 if l.length≤i∨isE (atB l i)=false then i
 else if expAt l i<spanEnd digit l (expAt l i)then spanEnd digit l (expAt l i)else i
def hexHead (l:List UInt8):Bool:=decide (2<l.length)&&(atB l 0).toNat==48&&isX (atB l 1)&&hexd (atB l 2)
def decEnd (l:List UInt8):Nat:=
 if spanEnd digit l 0<l.length∧(atB l (spanEnd digit l 0)).toNat=46∧0<spanEnd digit l 0 then spanEnd digit l (spanEnd digit l 0+1)
 else if spanEnd digit l 0=0∧1<l.length∧(atB l 0).toNat=46∧digit (atB l 1)=true then spanEnd digit l 1
 else spanEnd digit l 0
def numPrefix (l:List UInt8):Nat:=
 if hexHead l=true then spanEnd hexd l 2 else if decEnd l=0 then 0 else expEnd l (decEnd l)
theorem expAt_bound (l:List UInt8) (i:Nat) (h:i<l.length):i+1≤expAt l i∧expAt l i≤l.length:=by
 unfold expAt;split<;>omega
theorem expEnd_le (l:List UInt8) (i:Nat) (h:i≤l.length):i≤expEnd l i∧expEnd l i≤l.length:=by
 unfold expEnd;split
 ·omega
 ·have h1:=expAt_bound l i (by omega);have h2:=spanEnd_le digit l (expAt l i) h1.2;split<;>omega
theorem decEnd_le (l:List UInt8):decEnd l≤l.length:=by
 unfold decEnd;have h0:=spanEnd_le digit l 0 (Nat.zero_le _);split
 ·exact spanEnd_le digit l _ (by omega)
 ·split
  ·exact spanEnd_le digit l _ (by omega)
  ·exact h0
theorem numPrefix_le (l:List UInt8):numPrefix l≤l.length:=by
 unfold numPrefix;split
 ·rename_i h;simp[hexHead]at h;exact spanEnd_le hexd l 2 (by omega)
 ·split
  ·omega
  ·exact(expEnd_le l _ (decEnd_le l)).2
theorem dec_A {s:ByteArray} {k:Nat} (h:hexHead s.data.toList=false) (hk:spanEnd digit s.data.toList 0=k) (h1:k<s.size) (h2:((s[k].toNat:Int)==46)=true) (h3:0<k):numPrefix s.data.toList=expEnd s.data.toList (spanEnd digit s.data.toList (k+1)):=by
 have h4:s[k].toNat=46:=by have:(s[k].toNat:Int)=46:=beq_iff_eq.1 h2;omega
 have h5:decEnd s.data.toList=spanEnd digit s.data.toList (k+1):=by
  rw[decEnd,hk,if_pos ⟨by rw[len_data];exact h1,by rw[atB_lt h1];exact h4,h3⟩]
 have:=spanEnd_ge digit s.data.toList (k+1);rw[numPrefix,h,h5,if_neg (by simp),if_neg (by omega)]
theorem dec_C {s:ByteArray} (h:hexHead s.data.toList=false) (hk:spanEnd digit s.data.toList 0=0) (h1:1<s.size) (h2:((s[0].toNat:Int)==46)=true) (h3:digit s[1]=true):numPrefix s.data.toList=expEnd s.data.toList (spanEnd digit s.data.toList 1):=by
 have h4:s[0].toNat=46:=by have:(s[0].toNat:Int)=46:=beq_iff_eq.1 h2;omega
 have h5:decEnd s.data.toList=spanEnd digit s.data.toList 1:=by
  rw[decEnd,hk,if_neg (by omega),if_pos ⟨rfl,by rw[len_data];exact h1,by rw[atB_lt (by omega)];exact h4,by rw[atB_lt h1];exact h3⟩]
 have:=spanEnd_ge digit s.data.toList 1;rw[numPrefix,h,h5,if_neg (by simp),if_neg (by omega)]
theorem dec_N {s:ByteArray} {k:Nat} (h:hexHead s.data.toList=false) (hk:spanEnd digit s.data.toList 0=k) (h0:k≠0) (h1: ∀h:k<s.size,((s[k].toNat:Int)==46)=false):numPrefix s.data.toList=expEnd s.data.toList k:=by
 have h5:decEnd s.data.toList=k:=by
  rw[decEnd,hk,if_neg,if_neg (by omega)];rintro⟨ha,hb,_⟩;rw[len_data]at ha;rw[atB_lt ha]at hb;have:=beq_eq_false_iff_ne.1 (h1 ha);omega
 rw[numPrefix,h,h5,if_neg (by simp),if_neg h0]
theorem dec_0 {s:ByteArray} (h:hexHead s.data.toList=false) (hk:spanEnd digit s.data.toList 0=0) (h1: ∀h:1<s.size,((s[0].toNat:Int)==46)=true→digit s[1]=false):numPrefix s.data.toList=0:=by
 have h5:decEnd s.data.toList=0:=by
  rw[decEnd,hk,if_neg (by omega),if_neg];rintro⟨_,ha,hb,hc⟩;rw[len_data]at ha;rw[atB_lt (by omega)]at hb;rw[atB_lt ha,h1 ha (by rw[beq_iff_eq];omega)]at hc;simp at hc
 rw[numPrefix,h,h5,if_neg (by simp),if_pos rfl]
theorem hex_yes {s:ByteArray} (h:hexHead s.data.toList=true): ∃h:2<s.size,((s[0].toNat:Int)==48)=true∧hexd s[2]=true∧((((s[1].toNat:Int)==120)=true)∨(((s[1].toNat:Int)==120)=false∧((s[1].toNat:Int)==88)=true)):=by
 simp only[hexHead,Bool.and_eq_true,decide_eq_true_eq,len_data]at h;obtain⟨⟨⟨h1,h2⟩,h3⟩,h4⟩:=h;rw[atB_lt (by omega)]at h2 h3;rw[atB_lt h1]at h4;refine⟨h1,by simp at h2 ⊢;omega,h4,?_⟩;simp[isX]at h3 ⊢
 omega
theorem hex_no {s:ByteArray} (h:hexHead s.data.toList=false): ¬2<s.size∨ ∃h:2<s.size,((s[0].toNat:Int)==48)=false∨((s[0].toNat:Int)==48)=true∧((((s[1].toNat:Int)==120)=false∧((s[1].toNat:Int)==88)=false)∨((s[1].toNat:Int)==120)=true∧hexd s[2]=false∨((s[1].toNat:Int)==120)=false∧((s[1].toNat:Int)==88)=true∧hexd s[2]=false):=by
 by_cases h1:2<s.size
 ·refine .inr ⟨h1,?_⟩;simp only[hexHead,len_data,decide_eq_true h1,Bool.true_and]at h;rw[atB_lt (by omega),atB_lt (by omega),atB_lt h1]at h;cases h2:((s[0].toNat:Int)==48)
  ·exact .inl rfl
  ·refine .inr ⟨rfl,?_⟩;have h2':(s[0].toNat==48)=true:=by simp at h2 ⊢;omega
   rw[h2',Bool.true_and]at h;cases h3:((s[1].toNat:Int)==120)
   ·cases h4:((s[1].toNat:Int)==88)
    ·exact .inl ⟨rfl,rfl⟩
    ·have:isX s[1]=true:=by simp[isX]at h4 ⊢;omega
     rw[this,Bool.true_and]at h;exact .inr (.inr ⟨rfl,rfl,h⟩)
   ·have:isX s[1]=true:=by simp[isX]at h3 ⊢;omega
    rw[this,Bool.true_and]at h;exact .inr (.inl ⟨rfl,h⟩)
 ·exact .inl h1
theorem expEnd_out {s:ByteArray} {i:Nat} (h:(i:Int)=(s.size:Int)):expEnd s.data.toList i=i:=by
 rw[expEnd,if_pos (.inl (by rw[len_data];omega))]
theorem expEnd_no {s:ByteArray} {i:Nat} (h:i<s.size) (h1:(s[i].toNat:Int)≠101) (h2:(s[i].toNat:Int)≠69):expEnd s.data.toList i=i:=by
 rw[expEnd,if_pos (.inr (by rw[atB_lt h,isE];simp;omega))]
theorem expAt_sg {s:ByteArray} {i:Nat} (h:i+1<s.size) (h2:(s[i+1].toNat:Int)=43∨(s[i+1].toNat:Int)=45):expAt s.data.toList i=i+2:=by
 rw[expAt,if_pos ⟨by rw[len_data];exact h,by rw[atB_lt h,isPM];simp;omega⟩]
theorem expAt_ns {s:ByteArray} {i:Nat} (h2: ∀h:i+1<s.size,(s[i+1].toNat:Int)≠43∧(s[i+1].toNat:Int)≠45):expAt s.data.toList i=i+1:=by
 rw[expAt,if_neg];rintro⟨ha,hb⟩;rw[len_data]at ha;rw[atB_lt ha,isPM]at hb;have:=h2 ha;simp at hb;omega
theorem expEnd_yes {s:ByteArray} {i j k:Nat} (h:i<s.size) (h1:(s[i].toNat:Int)=101∨(s[i].toNat:Int)=69) (hj:expAt s.data.toList i=j) (hk:spanEnd digit s.data.toList j=k) (hlt:j<k):expEnd s.data.toList i=k:=by
 rw[expEnd,hj,hk,if_neg,if_pos hlt];rw[len_data,atB_lt h,isE];simp;omega
theorem expEnd_sole {s:ByteArray} {i j k:Nat} (hj:expAt s.data.toList i=j) (hk:spanEnd digit s.data.toList j=k) (hlt: ¬j<k):expEnd s.data.toList i=i:=by
 rw[expEnd,hj,hk,if_neg hlt,ite_self]
theorem utf_replaced (s:ByteArray) (i:Nat) (w:World) (hs:s.size≤281474976710656) (hi:i<s.size):
  Calls Tryz.prog 215 #[.string s,.int .i64 (i:Int)] w fun e w'=>e= .returned (.bool (repl s.data.toList i))∧w=w':=by
 by_cases h3:i+3≤s.size
 ·have hr:repl s.data.toList i=((s.extract i (i+3)).toList==[239,191,189]):=by
   rw[repl,ByteArray.toList_eq,Lib.extract_data,Nat.add_sub_cancel_left]
  have HR:=Lib.hid hr;clear hr;go_enter Tryz.func215,Tryz.ntmps215;go_wp2_with fail;go_ret;exact⟨ret_bool (by rw[HR.out]),rfl⟩
 ·have hr:repl s.data.toList i=false:=by
   cases h:repl s.data.toList i
   ·rfl
   ·have:=congrArg List.length (beq_iff_eq.1 h);simp at this;omega
  have HR:=Lib.hid hr;clear hr;go_enter Tryz.func215,Tryz.ntmps215;go_wp2_with fail;go_ret;exact⟨ret_bool (by rw[HR.out]),rfl⟩
theorem utf_valid (s:ByteArray) (w:World) (hs:s.size≤281474976710656):
  Calls Tryz.prog 172 #[.string s] w fun e w'=>e= .returned (.bool (valid s.data.toList))∧Below w.heap.size w w':=by
 have h0:=Lib.hid (vFrom_zero s.data.toList);go_enter Tryz.func172,Tryz.ntmps172;go_wp2_with fail;go_loopw [] (fun w'=> ∃pos:Nat,pos≤s.size∧w'=w.iter s pos∧Hid (vFrom s.data.toList pos=valid s.data.toList)) (fun w'=>s.size-w'.iterPos w.heap.size)
 case atStart=>exact⟨0,Nat.zero_le _,rfl,h0.out⟩
 case round=>
  obtain⟨pos,hpos,rfl,hv⟩:=hrel;by_cases hp:pos<s.size
  ·have hpl:pos<s.data.toList.length:=by rw[len_data];exact hp
   have hnx: ∀ty,(Instr.next (.pointer (some ⟨w.heap.size,0,none⟩)) true ty).run Tryz.prog (w.iter s pos)=_:=fun ty=>run_next_any w s pos ty hp
   have hde:=dec_eq s pos;rw[hde]at hnx;have hbc:=bad_code s.data.toList pos hpl;have hw1:=dec_pos s.data.toList pos;have hw2:=dec_w s.data.toList pos hpl;rw[len_data]at hw2;have hst:=@vFrom_step s.data.toList pos hpl;have hbd:=@vFrom_bad s.data.toList pos hpl;generalize (dec s.data.toList pos).1=r at hbc hnx;generalize (dec s.data.toList pos).2=d at hw1 hw2 hst hnx;by_cases hr:r=65533
   ·subst hr;cases hrp:repl s.data.toList pos
    ·have hb:bad s.data.toList pos=true:=by rw[hbc,hrp];rfl
     have HF:=Lib.hid ((hbd hb).symm.trans hv.out);clear hbc hst hbd hb hde;go_wp2_with (go_at_call 215;refine(utf_replaced s pos _ hs hp).mono ?_;rintro e w' ⟨rfl,rfl⟩);go_ret;exact⟨ret_bool (by rw[←HF.out]),(Below.refl _ _).alloc (Nat.le_refl _) _⟩
    ·have hb:bad s.data.toList pos=false:=by rw[hbc,hrp];rfl
     have HF:=Lib.hid ((hst hb).trans hv.out);clear hbc hst hbd hb hde;go_wp2_with (go_at_call 215;refine(utf_replaced s pos _ hs hp).mono ?_;rintro e w' ⟨rfl,rfl⟩);go_roundw
     case rel=>exact⟨pos+d,by omega,rfl,HF.out⟩
     case measure=>simp;omega
   ·have hb:bad s.data.toList pos=false:=by rw[hbc,beq_eq_false_iff_ne.2 hr];rfl
    have HF:=Lib.hid ((hst hb).trans hv.out);have hrb:((r:Int)==65533)=false:=by rw[beq_eq_false_iff_ne];omega
    clear hbc hst hbd hb hde hr;go_wp2_with fail;go_roundw
    case rel=>exact⟨pos+d,by omega,rfl,HF.out⟩
    case measure=>simp;omega
  ·have hnx: ∀ty,(Instr.next (.pointer (some ⟨w.heap.size,0,none⟩)) true ty).run Tryz.prog (w.iter s pos)=_:=fun ty=>run_next_end w s pos ty hp
   have HF:=Lib.hid ((vFrom_end (l:=s.data.toList) (i:=pos) (by rw[len_data];omega)).symm.trans hv.out);go_wp2_with fail;go_ret;exact⟨ret_bool (by rw[←HF.out]),(Below.refl _ _).alloc (Nat.le_refl _) _⟩
def optN (o:Option Nat):Int:=match o with|some n=>n|none=>0
def optE (e:Int) (o:Option Nat):Int:=match o with|some _=>0|none=>e
theorem u8_lit {a:UInt8} {n:Nat} (hn:n<256) (h:a.toNat=n):a=UInt8.ofNat n:=(u8_eq hn).2 h
theorem utf_literal_out (s:ByteArray) (i:Nat) (w:World) (hi:s.size≤i):
  Calls Tryz.prog 147 #[.string s,.int .i64 (i:Int)] w fun e w'=>e= .returned (.tuple #[.int .i64 0,.int .i64 10])∧w=w':=by
 go_enter Tryz.func147,Tryz.ntmps147;go_wp2_with fail;go_ret2;exact⟨rfl,rfl⟩
theorem utf_literal_no (s:ByteArray) (i:Nat) (w:World) (hi:i<s.size) (h1:s[i].toNat<34∨34<s[i].toNat) (h2:s[i].toNat<39∨39<s[i].toNat) (h3:s[i].toNat<96∨96<s[i].toNat):
  Calls Tryz.prog 147 #[.string s,.int .i64 (i:Int)] w fun e w'=>e= .returned (.tuple #[.int .i64 0,.int .i64 10])∧w=w':=by
 have b1:((s[i].toNat:Int) != 34)=true:=by rw[bne_iff_ne];omega
 have b2:((s[i].toNat:Int) != 39)=true:=by rw[bne_iff_ne];omega
 have b3:((s[i].toNat:Int) != 96)=true:=by rw[bne_iff_ne];omega
 clear h1 h2 h3;go_enter Tryz.func147,Tryz.ntmps147;go_wp2_with fail;go_ret2;exact⟨rfl,rfl⟩
theorem eqT {a b:Int} (h:(a==b)=true):a=b:=beq_iff_eq.1 h
theorem neT {a b:Int} (h:(a==b)=false):a≠b:=beq_eq_false_iff_ne.1 h
theorem u8T {a b:UInt8} (h:((a.toNat:Int)==(b.toNat:Int))=true):a=b:=by
 have:=eqT h;exact UInt8.toNat_inj.1 (by omega)
theorem u8F {a b:UInt8} (h:((a.toNat:Int)==(b.toNat:Int))=false):a≠b:=by
 rintro rfl;simp at h
theorem litT {a:UInt8} {n:Nat} {m:Int} (hn:n<256) (hm:m=n) (h:((a.toNat:Int)==m)=true):a=UInt8.ofNat n:=
 u8_lit hn (by have:=eqT h;omega)
theorem litF {a:UInt8} {n:Nat} {m:Int} (hn:n<256) (hm:m=n) (h:((a.toNat:Int)==m)=false):a≠UInt8.ofNat n:=by
 intro e;have:=(u8_eq hn).1 e;exact neT h (by omega)
def LitRel (s:ByteArray) (q:UInt8) (T:Option Nat) (k:Nat):Prop:=k≤s.size+1∧litFrom q s.data.toList k=T
theorem lit_out {s:ByteArray} {q:UInt8} {T:Option Nat} {k:Nat} (h:LitRel s q T k) (hk:s.size≤k):T=none:=by
 rw[←h.2,litFrom_end (by rw[len_data];exact hk)]
theorem lit_hit {s:ByteArray} {q:UInt8} {T:Option Nat} {k:Nat} (h:LitRel s q T k) (hk:k<s.size) (hq:s[k]=q):T=some (k+1):=by
 rw[←h.2,litFrom_hit (by rw[len_data];exact hk) (by rw[atB_lt hk];exact hq)]
theorem lit_raw {s:ByteArray} {q:UInt8} {T:Option Nat} {k:Nat} (h:LitRel s q T k) (hr:q=96) (hk:k<s.size) (hq:s[k]≠q):LitRel s q T (k+1):=by
 subst hr;exact⟨by omega,(litFrom_raw (by rw[len_data];exact hk) (by rw[atB_lt hk];exact hq)).symm.trans h.2⟩
theorem lit_nl {s:ByteArray} {q:UInt8} {T:Option Nat} {k:Nat} (h:LitRel s q T k) (hr:q≠96) (hk:k<s.size) (hq:s[k]≠q) (hn:s[k]=10):T=none:=by
 rw[←h.2,litFrom_nl (by rw[len_data];exact hk) hr (by rw[atB_lt hk];exact hq) (by rw[atB_lt hk];exact hn)]
theorem lit_plain {s:ByteArray} {q:UInt8} {T:Option Nat} {k:Nat} (h:LitRel s q T k) (hr:q≠96) (hk:k<s.size) (hq:s[k]≠q) (hn:s[k]≠10) (hb:s[k]≠92):LitRel s q T (k+1):=
 ⟨by omega,(litFrom_plain (by rw[len_data];exact hk) hr (by rw[atB_lt hk];exact hq) (by rw[atB_lt hk];exact hn) (by rw[atB_lt hk];exact hb)).symm.trans h.2⟩
theorem lit_esc_end {s:ByteArray} {q:UInt8} {T:Option Nat} {k:Nat} (h:LitRel s q T k) (hk:k+1=s.size) (hq:s[k]'(by omega)≠q):LitRel s q T (k+2):=by
 refine⟨by omega,?_⟩;rw[←h.2,litFrom_end (by rw[len_data];omega),litFrom_esc_end (by rw[len_data];exact hk) (by rw[atB_lt (by omega)];exact hq)]
theorem lit_esc_nl {s:ByteArray} {q:UInt8} {T:Option Nat} {k:Nat} (h:LitRel s q T k) (hr:q≠96) (hk:k+1<s.size) (hq:s[k]≠q) (hb:s[k]=92) (hn:s[k+1]=10):T=none:=by
 rw[←h.2,litFrom_esc_nl (by rw[len_data];exact hk) hr (by rw[atB_lt (by omega)];exact hq) (by rw[atB_lt (by omega)];exact hb) (by rw[atB_lt hk];exact hn)]
theorem lit_esc {s:ByteArray} {q:UInt8} {T:Option Nat} {k:Nat} (h:LitRel s q T k) (hr:q≠96) (hk:k+1<s.size) (hq:s[k]≠q) (hb:s[k]=92) (hn:s[k+1]≠10):LitRel s q T (k+2):=
 ⟨by omega,(litFrom_esc (by rw[len_data];exact hk) hr (by rw[atB_lt (by omega)];exact hq) (by rw[atB_lt (by omega)];exact hb) (by rw[atB_lt hk];exact hn)).symm.trans h.2⟩
theorem ret_lit {T U:Option Nat} {a b:Int} (h:T=U) (ha:a=optN U) (hb:b=optE 10 U):Ending.returned (.tuple #[.int .i64 a,.int .i64 b])= .returned (.tuple #[.int .i64 (optN T),.int .i64 (optE 10 T)]):=by
 subst h ha hb;rfl
theorem utf_literal_raw (s:ByteArray) (i:Nat) (w:World) (hs:s.size≤281474976710656) (hi:i<s.size) (T:Option Nat) (hT:LitRel s s[i] T (i+1)) (hq:s[i]=96)
  (hb1:((s[i].toNat:Int) != 34)=true) (hb2:((s[i].toNat:Int) != 39)=true) (hb3:((s[i].toNat:Int) != 96)=false) (hb4:((s[i].toNat:Int)==96)=true):
  Calls Tryz.prog 147 #[.string s,.int .i64 (i:Int)] w fun e w'=>e= .returned (.tuple #[.int .i64 (optN T),.int .i64 (optE 10 T)])∧w=w':=by
 have hi0:decide ((i:Int)<0)=false:=by simp
 have hi1:decide (s.size≤i)=false:=by simpa using hi
 have hi2:decide ((s.size:Int)≤(i:Int))=false:=by simpa using hi
 have HT:=Lib.hid hT;have HQ:=Lib.hid hq;clear hT hq
 all_goals
  go_enter Tryz.func147,Tryz.ntmps147;go_wp2_with fail;go_loop [7] (fun t=> ∃k:Nat,k≤s.size+1∧t= .int .i64 k∧LitRel s s[i] T k) (fun t=>s.size+1-(intOf t).toNat)
  case atStart=>exact⟨i+1,by omega,by go_num,HT.out⟩
  case round=>
   obtain⟨k,hk,rfl,hrel⟩:=hrel;clear HT;have HR:=Lib.hid hrel;clear hrel;by_cases hlt:k<s.size
   ·cases h1:((s[k].toNat:Int)==(s[i].toNat:Int))
    ·go_wp2_with fail;go_round
     case rel=>exact⟨k+1,by omega,by go_num,lit_raw HR.out HQ.out hlt (u8F h1)⟩
     case measure=>simp[intOf];omega
    ·go_wp2_with fail;go_ret2;exact⟨ret_lit (lit_hit HR.out hlt (u8T h1)) (by simp[optN]) rfl,rfl⟩
   ·go_wp2_with fail;go_ret2;exact⟨ret_lit (lit_out HR.out (by omega)) rfl rfl,rfl⟩
theorem utf_literal_esc (s:ByteArray) (i:Nat) (w:World) (hs:s.size≤281474976710656) (hi:i<s.size) (T:Option Nat) (hT:LitRel s s[i] T (i+1)) (hq:s[i]≠96)
  (b1 b2:Bool) (hb1:((s[i].toNat:Int) != 34)=b1) (hb2:((s[i].toNat:Int) != 39)=b2) (hb4:((s[i].toNat:Int)==96)=false) (hbb:(b1&&b2)=false):
  Calls Tryz.prog 147 #[.string s,.int .i64 (i:Int)] w fun e w'=>e= .returned (.tuple #[.int .i64 (optN T),.int .i64 (optE 10 T)])∧w=w':=by
 have hi0:decide ((i:Int)<0)=false:=by simp
 have hi1:decide (s.size≤i)=false:=by simpa using hi
 have hi2:decide ((s.size:Int)≤(i:Int))=false:=by simpa using hi
 have HT:=Lib.hid hT;have HQ:=Lib.hid hq;clear hT hq;cases b1<;>cases b2<;>first|(simp at hbb;done)|skip
 all_goals
  clear hbb;go_enter Tryz.func147,Tryz.ntmps147;go_wp2_with fail;go_loop [7] (fun t=> ∃k:Nat,k≤s.size+1∧t= .int .i64 k∧LitRel s s[i] T k) (fun t=>s.size+1-(intOf t).toNat)
  case atStart=>exact⟨i+1,by omega,by go_num,HT.out⟩
  case round=>
   obtain⟨k,hk,rfl,hrel⟩:=hrel;clear HT;have HR:=Lib.hid hrel;clear hrel;by_cases hlt:k<s.size
   ·cases h1:((s[k].toNat:Int)==(s[i].toNat:Int))
    ·cases h2:((s[k].toNat:Int)==10)
     ·cases h3:((s[k].toNat:Int)==92)
      ·go_wp2_with fail;go_round
       case rel=>exact⟨k+1,by omega,by go_num,lit_plain HR.out HQ.out hlt (u8F h1) (litF (n:=10) (by omega) rfl h2) (litF (n:=92) (by omega) rfl h3)⟩
       case measure=>simp[intOf];omega
      ·by_cases hlt2:k+1<s.size
       ·cases h4:((s[k+1].toNat:Int)==10)
        ·go_wp2_with fail;go_round
         case rel=>first|exact⟨k+2,by omega,by go_num,lit_esc HR.out HQ.out hlt2 (u8F h1) (litT (n:=92) (by omega) rfl h3) (litF (n:=10) (by omega) rfl h4)⟩|((repeat apply Exists.intro);exact⟨⟨k+2,by omega,by go_num,lit_esc HR.out HQ.out hlt2 (u8F h1) (litT (n:=92) (by omega) rfl h3) (litF (n:=10) (by omega) rfl h4)⟩,rfl⟩)
         case measure=>simp[intOf];omega
        ·go_wp2_with fail;go_ret2;exact⟨ret_lit (lit_esc_nl HR.out HQ.out hlt2 (u8F h1) (litT (n:=92) (by omega) rfl h3) (litT (n:=10) (by omega) rfl h4)) rfl rfl,rfl⟩
       ·go_wp2_with fail;go_round
        case rel=>first|exact⟨k+2,by omega,by go_num,lit_esc_end HR.out (by omega) (u8F h1)⟩|((repeat apply Exists.intro);exact⟨⟨k+2,by omega,by go_num,lit_esc_end HR.out (by omega) (u8F h1)⟩,rfl⟩)
        case measure=>simp[intOf];omega
     ·go_wp2_with fail;go_ret2;exact⟨ret_lit (lit_nl HR.out HQ.out hlt (u8F h1) (litT (n:=10) (by omega) rfl h2)) rfl rfl,rfl⟩
    ·go_wp2_with fail;go_ret2;exact⟨ret_lit (lit_hit HR.out hlt (u8T h1)) (by simp[optN]) rfl,rfl⟩
   ·go_wp2_with fail;go_ret2;exact⟨ret_lit (lit_out HR.out (by omega)) rfl rfl,rfl⟩
end Go.Proofs.YtibcjfjacielbaaGreatDoor
