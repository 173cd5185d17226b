import Derived.Test.YtcdoilkjmjbgmaaGreatDoorW06
import Derived.WalkMore
import Derived.ScopeJumps
import Derived.OwnWalk
import Derived.Laws.OwnMore
import Derived.Deep.CutBlock
import Derived.Test.YtcdoilkjmjbgmaaGreatDoorW07
/- Part of the proof of YtcdoilkjmjbgmaaGreatDoorCardX: PlJ PlK LexH TrA TrB TrI TrYa App LexJ LawA LawB LawC LawD TrK RdB RdC LawE LawW LawH TrJ. -/
set_option maxRecDepth 100000
set_option maxHeartbeats 4000000
set_option linter.unusedVariables false
set_option linter.unusedSimpArgs false
namespace Go.Proofs.YtcdoilkjmjbgmaaGreatDoor
open Go.RowKit
open Go.Proofs.Tryz
variable {x y l g:List UInt8} {n k e p at':Nat} {br sq b q:Bool} {c:UInt8} {P:Program} {a a':Act} {w w':World} {Q:Exit→Act→World→Prop} {s:ByteArray} {v:Value} {T:Nat→World→Prop}
theorem sJ {q : UInt8} {y : List UInt8} : ∀ {x : List UInt8} {n : Nat}, eH q (x ++ y) = some n → n ≤ x.length → eH q x = some n
  | [], n, h, hn => by have := mK _ _ _ h; simp at hn; omega
  | [c], n, h, hn => by
    have h1:=(mK _ _ _ h).1
    simp only[List.length_singleton]at hn
    cases y with
    | nil => simpa using h
    | cons d r =>
      simp only[List.singleton_append,eH]at h
      by_cases hc:c=q
      · subst hc; rw [OH, show n = 1 by omega]
      · exfalso
        rw[af hc]at h
        have two : ∀ {o : Option Nat} {a : Nat}, 1 ≤ a → (∀ m, o = some m → 1 ≤ m) → o.map (· + a) = some n → False := by
          intro o a ha ho h
          obtain⟨m,hm,rfl⟩:=xj.1 h
          have:=ho m hm
          omega
        repeat' split at h
        all_goals first
          | (cases h; done)
          | exact two (by omega) (fun m hm => (mK _ _ _ hm).1) h
  | c :: d :: r, n, h, hn => by
    simp only[dI]at hn
    simp only[pJ,eH]at h ⊢
    split
    · rename_i hc; rw [ar hc] at h; exact h
    · rename_i hc
      rw[af hc]at h
      split
      · rename_i h1
        rw[ar h1]at h
        obtain⟨m,hm,rfl⟩:=xj.1 h
        rw[sJ (x:=d::r) (y:=y) hm (by simp;omega)];rfl
      · rename_i h1
        rw[af h1]at h
        split
        · rename_i h2; rw [ar h2] at h; cases h
        · rename_i h2
          rw[af h2]at h
          split
          · rename_i h3
            rw[ar h3]at h
            split
            · rename_i h4; rw [ar h4] at h; cases h
            · rename_i h4
              rw[af h4]at h
              obtain⟨m,hm,rfl⟩:=xj.1 h
              rw[sJ (x:=r) (y:=y) hm (by omega)];rfl
          · rename_i h3
            rw[af h3]at h
            obtain⟨m,hm,rfl⟩:=xj.1 h
            rw[sJ (x:=d::r) (y:=y) hm (by simp;omega)];rfl
theorem MK (hx:x≠[]) (h:bz (x++y) 0=some n) (hn:n≤x.length):bz x 0=some n:=by
 have hl:=lO hx;unfold bz at h ⊢
 rw[cW hl]at h;split at h
 ·rename_i h1;rw[ar ⟨by omega,h1.2⟩];obtain⟨m,hm,rfl⟩:=xj.1 h;rw[IC (by omega)]at hm;rw[sJ hm (by simp;omega)];rfl
 ·cases h
theorem DT (h1:(an l 0).toNat=46) (h2:1<l.length) (h3:digit (an l 1)=true):2≤ag l:=by
 have hh:aO l=false:=by simp[aO,h1]
 have h0:ae digit l 0=0:=du (by omega) (by simp[digit,h1]);have h4:aI l=ae digit l 1:=by rw[aI,h0,af (by omega),ar ⟨rfl,h2,h1,h3⟩]
 have h5:2≤ae digit l 1:=by
  have:=iD (p:=digit) (l:=l) (i:=1) h2 (by
   rw[an,lf,lB h2]at h3;exact h3)
  rw[←this];exact aV digit _ 2
 rw[ag,hh,h4,af (by simp),af (by omega)];have:=lZ l (ae digit l 1) (bI digit l 1 (by omega));omega
theorem E6 (l:List UInt8):ag l≤cu l∧aW l≤cu l:=by
 unfold cu;split<;>omega
theorem Kg (h:bF (x++y) br sq= .tok k n b q) (hn:n≤x.length):bF x br sq= .tok k n b q:=by
 have Xw:n=cu (x++y):=by
  unfold bF at h
  repeat' split at h
  all_goals first
   |(cases h;done)
   |(injection h with _ h2;exact h2.symm)
 have lW:=E6 (x++y);have e1:=DR (x:=x) (y:=y) (by omega);have e2:=CU (x:=x) (y:=y) (by omega);have e3:cu x=cu (x++y):=by unfold cu;rw[e1,e2]
 have e4:kr x=kr (x++y):=by unfold kr;rw[e1,e2]
 have ht:x.take (cu (x++y))=(x++y).take (cu (x++y)):=(A4 (by omega)).symm;have e5:iX x=iX (x++y):=by unfold iX;rw[e1,e2,e3,ht]
 have e6:bY (x++y)=false→bY x=false:=by
  unfold bY;rw[e3];by_cases au:cu (x++y)<x.length
  ·rw[cW au,dQ au,dQ (by simp;omega)];exact id
  ·rw[gp au];intro _;rfl
 unfold bF at h ⊢
 rw[e3,e4,e5];cases hf:bY (x++y)
 ·rw[hf]at h;rw[e6 hf];exact h
 ·rw[hf]at h;cases h
theorem YO (h:1<x.length):Hs (x++y)=Hs x:=by
 unfold Hs;rw[A4 (by omega),dQ h,dQ (by simp;omega)]
theorem YP (hx:x≠[]) (h:sn (x++y) br sq= .tok k n b q) (hn:n≤x.length):sn x br sq= .tok k n b q:=by
 have hl:=lO hx;by_cases h1:1<x.length
 ·unfold sn at h ⊢
  rw[YO h1,cW hl]at h;exact h
 ·have h2:Hs x=false:=by simp[Hs];omega
  cases h3:Hs (x++y)
  ·unfold sn at h ⊢
   rw[h3,cW hl]at h;rw[h2];exact h
  ·rw[sn,h3,ar rfl]at h;injection h with _ h4
   omega
theorem ML (hx:x≠[]) (h:aX (x++y) br sq= .tok k n b q) (hn:n≤x.length):aX x br sq= .tok k n b q:=by
 have hl:=lO hx;unfold aX at h ⊢
 rw[cW hl]at h;split at h
 ·rename_i h1;rw[ar h1];injection h with a1 a2 a3 a4
  rw[a2]at a1;rw[eC (y:=y) (aT _) (by omega),a2,←a1,A4 hn,a3,a4]
 ·rename_i h1;rw[af h1];split at h
  ·rename_i h2;rw[ar h2];injection h with a1 a2 a3 a4
   rw[eC (y:=y) (by omega) (by omega),a1,a2,a3,a4]
  ·rename_i h2;rw[af h2];split at h
   ·rename_i h3;have Xw:ag (x++y)≤n:=by
     have lW:=E6 (x++y);have:n=cu (x++y):=by
      unfold bF at h
      repeat' split at h
      all_goals first
       |(cases h;done)
       |(injection h with _ h2;exact h2.symm)
     omega
    rw[ar]
    ·exact Kg h hn
    ·rcases h3 with h3|⟨h3,h4,h5⟩
     ·exact .inl h3
     ·have h6:=DT (by rw[cW hl];exact h3) h4 h5;exact .inr ⟨h3,by omega,by rw[cW (by omega)]at h5;exact h5⟩
   ·rename_i h3;rw[af]
    ·split at h
     ·rename_i h4;rw[ar h4];unfold tf at h ⊢
      split at h
      ·cases h
      ·rename_i m hm;split at h
       ·rename_i h5;injection h with a1 a2 a3 a4
        subst a2;rw[MK hx hm hn];simp only;rw[A4 hn]at h5;rw[ar h5,a1,a3,a4]
       ·cases h
     ·rename_i h4;rw[af h4];exact YP hx h hn
    ·rintro(h4|⟨h4,h5,h6⟩)
     ·exact h3 (.inl h4)
     ·exact h3 (.inr ⟨h4,by simp;omega,by rw[cW h5];exact h6⟩)
def Tok.move (d:Nat) (t:Tok):Tok:=⟨t.kind,t.text,t.pos+d⟩
theorem uE (d:Nat): ∀(m:Nat) (l:List UInt8) (p:Nat) (br sq:Bool),l.length≤m→cE l (p+d) br sq=((cE l p br sq).1.map (Tok.move d),(cE l p br sq).2.map fun r=>(r.1+d,r.2))
 |m,[],p,br,sq,_=>rfl
 |0,c::r,p,br,sq,h=>by simp at h
 |m+1,c::r,p,br,sq,h=>by
  have bC:c::r≠[]:=by simp
  rw[oW bC,oW bC];generalize hl:c::r=l at*
  have hr:=ka bC;split
  ·rw[show p+d+1=p+1+d by omega];exact uE d m _ _ _ _ (by simp;omega)
  ·split
   ·rw[show p+d+cS l=p+cS l+d by omega];exact uE d m _ _ _ _ (by simp;omega)
   ·cases ht:aX l br sq with
    |bad e=>rfl
    |tok k n b q=>
     have hn:=jb bC ht;simp only;rw[show p+d+n=p+n+d by omega,uE d m _ _ _ _ (by simp;omega)];rfl
theorem uF (h:aX l br sq= .bad e):e=110∨e=111∨e=112:=by
 unfold aX bF tf sn at h
 repeat' split at h
 all_goals first
  |(cases h;done)
  |(injection h with h;omega)
theorem nO: ∀(m:Nat) (l:List UInt8) (p:Nat) (br sq:Bool) (ts:List Tok) (a e:Nat),l.length≤m→cE l p br sq=(ts,some (a,e))→
  p≤a∧a<p+l.length∧(e=110∨e=111∨e=112)∧cE (l.take (a-p)) p br sq=(ts,none)
 |m,[],p,br,sq,ts,a,e,_,h=>by rw[sF]at h;cases h
 |0,c::r,p,br,sq,ts,a,e,h,_=>by simp at h
 |m+1,c::r,p,br,sq,ts,a,e,hm,h=>by
  have bC:c::r≠[]:=by simp
  generalize hl:c::r=x at*
  have hlen:=lO bC;have cB: ∀m,0<m→x.take m≠[]∧an (x.take m) 0=an x 0:=by
   intro m hm;have h1:0<(x.take m).length:=by simp;omega
   refine⟨Es.1 h1,?_⟩;have h2:=cW (x:=x.take m) (y:=x.drop m) h1;rw[tB]at h2;exact h2.symm
  cases hb:jv (an x 0)
  ·by_cases hc:(an x 0).toNat=35
   ·rw[jE bC hc]at h;have hr:=ka bC;have ih:=nO m _ _ _ _ _ _ _ (by simp;omega) h;simp only[mY]at ih;refine⟨by omega,by omega,ih.2.2.1,?_⟩;have hk:ae eI x 0<x.length∧cS x=ae eI x 0+1:=by
     have PF:cS x<x.length:=by omega
     unfold cS at PF ⊢
     omega
    obtain⟨h1,h2⟩:=cB (a-p) (by omega);rw[jE h1 (by rw[h2];exact hc)];have hs:ae eI (x.take (a-p)) 0=ae eI x 0:=by
     have:=eC (p:=eI) (x:=x.take (a-p)) (y:=x.drop (a-p)) (i:=0) (aT _) (by rw[tB];simp;omega);rw[tB]at this;exact this
    have SN:cS (x.take (a-p))=cS x:=by
     rw[hk.2];unfold cS;rw[hs];simp;omega
    rw[SN,List.drop_take,show a-p-cS x=a-(p+cS x)by omega];exact ih.2.2.2
   ·cases ht:aX x br sq with
    |bad e'=>
     rw[sG bC hb hc ht]at h;injection h with h1 h2
     injection h2 with h2
     injection h2 with h2 h3
     subst h1 h2 h3;refine⟨aP _,by omega,uF ht,?_⟩;rw[EC,List.take_zero,sF]
    |tok k n b q=>
     have hn:=jb bC ht;rw[pd bC hb hc ht]at h;injection h with h1 h2
     subst h1;have ih:=nO m (x.drop n) (p+n) b q (cE (x.drop n) (p+n) b q).1 a e (by simp;omega) (by rw[←h2]);simp only[mY]at ih;refine⟨by omega,by omega,ih.2.2.1,?_⟩;obtain⟨h3,h4⟩:=cB (a-p) (by omega);have SR:aX (x.take (a-p)) br sq= .tok k n b q:=by
      refine ML (y:=x.drop (a-p)) h3 ?_ (by simp;omega);rw[tB];exact ht
     rw[pd h3 (by rw[h4];exact hb) (by rw[h4];exact hc) SR,List.take_take,List.drop_take,show min n (a-p)=n by omega,show a-p-n=a-(p+n)by omega,ih.2.2.2]
  ·rw[cK bC hb]at h;have ih:=nO m _ _ _ _ _ _ _ (by simp;omega) h;simp only[mY]at ih;refine⟨by omega,by omega,ih.2.2.1,?_⟩;obtain⟨h1,h2⟩:=cB (a-p) (by omega);rw[cK h1 (by rw[h2];exact hb),List.drop_take,show a-p-1=a-(p+1)by omega];exact ih.2.2.2
def Blank (g:List UInt8):Prop:= ∀(y:List UInt8) (p:Nat) (br sq:Bool),cE (g++y) p br sq=cE y (p+g.length) br sq
theorem Blank.nil:Blank []:=fun _ _ _ _=>rfl
theorem Blank.cons (hc:jv c=true) (h:Blank g):Blank (c::g):=by
 intro y p br sq;rw[pJ,cK (l:=c::(g++y)) (by simp) (show jv c=true from hc)];show cE (g++y) (p+1) br sq=_;rw[h,dI,show p+1+g.length=p+(g.length+1)by omega]
theorem DU {c rest:Code} (l:Nat) (J:Act→World→Prop) (μ:Act→World→Nat) (hf:findLabel c l=some (Code.seq .skip rest))
  (pass: ∀a w,J a w→rest.wp P (Exit.jump l (fun a' w'=>J a' w'∧μ a' w'<μ a w) Q) a w)
  (first: ∀Q',(∀a w,J a w→rest.wp P Q' a w)→(∀e a w,(∀l',e≠.goto l')→Q e a w→Q' e a w)→c.wp P Q' a w):(Code.scope c).wp P Q a w:=by
 refine wp_scope_jumps l J μ hf (first (Exit.jump l J Q) (fun a w h=>?_) ?_) fun a w h=>wp_seq (wp_skip (pass a w h))
 ·refine wp_mono (pass a w h) fun e a' w' hq=>?_
  cases e with
  |goto l'=>exact⟨hq.1,hq.2.1⟩
  |normal=>exact hq
  |exit id=>exact hq
  |ret=>exact hq
  |panic ch=>exact hq
  |outgrown=>exact hq
 ·intro e a w he hq;cases e with
  |goto l'=>exact absurd rfl (he l')
  |normal=>exact hq
  |exit id=>exact hq
  |ret=>exact hq
  |panic ch=>exact hq
  |outgrown=>exact hq
theorem kS (h:qY w p s at' br sq v):nA w p=at':=by
 unfold nA;have:w.cell? ⟨p,1,none⟩=some (.int .i64 (at':Int)):=by rw[h.cell];rfl
 rw[this];simp
structure EF (T:Nat→World→Prop) (w:World) (p:Nat) (s:ByteArray) (R:List Tok×Option (Nat×Nat)) (at':Nat) (br sq:Bool) (v:Value) (ts:List Tok) (w':World):Prop where
 le:at'≤s.size
 z:qY w' p s at' br sq v
 own:w'.ownsRow w.heap.size 139 3 v ts.length (aK ts)
 below:Below w.heap.size w w'
 FM:T w.heap.size w'
 NX:ts.length≤at'
 out:R=(ts++(cE (s.data.toList.drop at') at' br sq).1,(cE (s.data.toList.drop at') at' br sq).2)
def eQ (l:List UInt8):List Tok×Option (Nat×Nat):=if 33554432<l.length then([],some (0,1))else cE l 0 false false
def gL (r:List Tok×Option (Nat×Nat)):List Tok:=match r.2 with|none=>r.1|some _=>[]
def yN (r:List Tok×Option (Nat×Nat)):Nat:=match r.2 with|none=>0|some x=>x.1
def rH (r:List Tok×Option (Nat×Nat)):Nat:=match r.2 with|none=>0|some x=>x.2
def fo (w:World) (r:List Tok×Option (Nat×Nat)) (e:Ending) (w':World):Prop:=
 ∃v,e= .returned (.tuple #[v,.int .i64 (yN r:Nat),.int .i64 (rH r:Nat)])∧w'.ownsRow w.heap.size 139 3 v (gL r).length (aK (gL r))∧Below w.heap.size w w'
theorem fo.bad {r:List Tok×Option (Nat×Nat)} {a:Nat} (h:r.2=some (a,k)) (hb:Below w.heap.size w w'):fo w r (.returned (.tuple #[.slice none 0 0,.int .i64 (a:Int),.int .i64 (k:Int)])) w':=by
 refine⟨.slice none 0 0,?_,?_,hb⟩
 ·rw[yN,rH,h]
 ·rw[gL,h];exact ur _ _ _ _
theorem fo.aft {r:List Tok×Option (Nat×Nat)} (h:r.2=none) (ho:w'.ownsRow w.heap.size 139 3 v r.1.length (aK r.1)) (hb:Below w.heap.size w w'):fo w r (.returned (.tuple #[v,.int .i64 0,.int .i64 0])) w':=by
 refine⟨v,?_,?_,hb⟩
 ·rw[yN,rH,h];rfl
 ·rw[gL,h];exact ho
theorem wS: ∀(l:List UInt8),Lib.indexByte l 10=if ae eI l 0<l.length then(ae eI l 0:Int)else-1
 |[]=>by simp[Lib.indexByte]
 |c::r=>by
  have ih:=wS r;rw[Lib.indexByte];by_cases h:c=10
  ·subst h;have:ae eI (10::r) 0=0:=by simp[ae,rf,eI]
   rw[this,ar (by rfl),ar (by simp)];rfl
  ·have hn:eI c=true:=by
    simp only[eI,ju,ne_eq];intro e;exact h ((yH (n:=10) (by omega)).2 e)
   have h1:ae eI (c::r) 0=ae eI r 0+1:=by simp[ae,rf,hn]
   have hb:(c==10)=false:=by simp[h]
   have hl:(c::r).length=r.length+1:=rfl;rw[hb,h1,hl];by_cases h2:ae eI r 0<r.length
   ·have h3:ae eI r 0+1<r.length+1:=by omega
    have:((ae eI r 0:Int)== -1)=false:=by
     have h4: ¬(ae eI r 0:Int)= -1:=by omega
     exact bK.2 h4
    rw[ar h2]at ih;rw[ih,this,ar h3];simp
   ·have h3: ¬ae eI r 0+1<r.length+1:=by omega
    rw[af h2]at ih;rw[ih,af h3];simp
theorem EF.move {ok:List UInt8→Prop} (hT:pT ok T) {w w':World} {p:Nat} {s:ByteArray} {R:List Tok×Option (Nat×Nat)} {at' n:Nat} {br sq:Bool} {v:Value} {ts:List Tok} (h:EF T w p s R at' br sq v ts w')
  (hp:w.heap.size≤p) (hn:at'+n≤s.size) (he:cE (s.data.toList.drop at') at' br sq=cE (s.data.toList.drop (at'+n)) (at'+n) br sq) (y:Int) (hy:y=((at'+n:Nat):Int)):
  EF T w p s R (at'+n) br sq v ts (w'.setCell ⟨p,1,none⟩ (.int .i64 y)):=by
 subst hy;have hb:=(aS w.heap.size w').setCell (p:=⟨p,1,none⟩) hp (.int .i64 ((at'+n:Nat):Int));refine⟨hn,?_,aF h.own h.z (by decide) _,h.below.trans hb,hT.fN h.FM hb,by have:=h.NX;omega,?_⟩
 ·have:=aH.dw h.z 1 (.int .i64 ((at'+n:Nat):Int));simpa [qY]using this
 ·rw[h.out,he]
def rB (T:Nat→World→Prop) (w:World) (p:Nat) (s:ByteArray) (R:List Tok×Option (Nat×Nat)) (a':Act) (w':World):Prop:=
 ∃(at':Nat) (br sq:Bool) (v:Value) (ts:List Tok) (u:Nat→Value),a'={tmps:=#[.string s,undef,.slice none 0 0,.int .i64 0,.int .i64 0,.pointer (some ⟨p,0,none⟩),u 6,u 7,u 8,u 9,u 10,u 11,u 12,u 13,u 14,u 15,u 16,u 17,u 18,u 19,u 20,u 21,u 22,u 23,u 24,u 25,u 26,u 27,u 28,u 29,u 30,u 31,u 32,u 33,u 34,u 35,u 36,u 37,u 38,u 39,u 40,u 41,u 42,u 43,u 44,u 45,u 46,u 47,u 48,u 49,u 50,u 51,u 52,u 53,u 54,u 55,u 56,u 57,u 58,u 59,u 60,u 61,u 62,u 63,u 64,u 65,u 66,u 67,u 68,u 69,u 70,u 71,u 72,u 73,u 74,u 75,u 76],defers:=[]}∧EF T w p s R at' br sq v ts w'∧s.size≤33554432
theorem rB.lay {R:List Tok×Option (Nat×Nat)} {ts:List Tok} 
  (hf:a'={tmps:=#[.string s,undef,.slice none 0 0,.int .i64 0,.int .i64 0,.pointer (some ⟨p,0,none⟩),a'.tmps.getD 6 undef,a'.tmps.getD 7 undef,a'.tmps.getD 8 undef,a'.tmps.getD 9 undef,a'.tmps.getD 10 undef,a'.tmps.getD 11 undef,a'.tmps.getD 12 undef,a'.tmps.getD 13 undef,a'.tmps.getD 14 undef,a'.tmps.getD 15 undef,a'.tmps.getD 16 undef,a'.tmps.getD 17 undef,a'.tmps.getD 18 undef,a'.tmps.getD 19 undef,a'.tmps.getD 20 undef,a'.tmps.getD 21 undef,a'.tmps.getD 22 undef,a'.tmps.getD 23 undef,a'.tmps.getD 24 undef,a'.tmps.getD 25 undef,a'.tmps.getD 26 undef,a'.tmps.getD 27 undef,a'.tmps.getD 28 undef,a'.tmps.getD 29 undef,a'.tmps.getD 30 undef,a'.tmps.getD 31 undef,a'.tmps.getD 32 undef,a'.tmps.getD 33 undef,a'.tmps.getD 34 undef,a'.tmps.getD 35 undef,a'.tmps.getD 36 undef,a'.tmps.getD 37 undef,a'.tmps.getD 38 undef,a'.tmps.getD 39 undef,a'.tmps.getD 40 undef,a'.tmps.getD 41 undef,a'.tmps.getD 42 undef,a'.tmps.getD 43 undef,a'.tmps.getD 44 undef,a'.tmps.getD 45 undef,a'.tmps.getD 46 undef,a'.tmps.getD 47 undef,a'.tmps.getD 48 undef,a'.tmps.getD 49 undef,a'.tmps.getD 50 undef,a'.tmps.getD 51 undef,a'.tmps.getD 52 undef,a'.tmps.getD 53 undef,a'.tmps.getD 54 undef,a'.tmps.getD 55 undef,a'.tmps.getD 56 undef,a'.tmps.getD 57 undef,a'.tmps.getD 58 undef,a'.tmps.getD 59 undef,a'.tmps.getD 60 undef,a'.tmps.getD 61 undef,a'.tmps.getD 62 undef,a'.tmps.getD 63 undef,a'.tmps.getD 64 undef,a'.tmps.getD 65 undef,a'.tmps.getD 66 undef,a'.tmps.getD 67 undef,a'.tmps.getD 68 undef,a'.tmps.getD 69 undef,a'.tmps.getD 70 undef,a'.tmps.getD 71 undef,a'.tmps.getD 72 undef,a'.tmps.getD 73 undef,a'.tmps.getD 74 undef,a'.tmps.getD 75 undef,a'.tmps.getD 76 undef],defers:=[]}) (h:EF T w p s R at' br sq v ts w') (hs:s.size≤33554432):rB T w p s R a' w':=⟨at',br,sq,v,ts,fun i=>a'.tmps.getD i undef,hf,h,hs⟩
theorem UY {ok:List UInt8→Prop} (hT:pT ok T) (w:World) (s:ByteArray) (hs:s.size≤281474976710) (cC: ∀k,TF ok (s.data.toList.drop k)) (kD:T w.heap.size w):
  Calls prog 116 #[.string s] w (fo w (eQ s.data.toList)):=by
 obtain⟨p,hp⟩: ∃p,p=w.heap.size:=⟨_,rfl⟩;obtain⟨R,hR⟩: ∃R,R=eQ s.data.toList:=⟨_,rfl⟩;rw[←hR];have gR:w.heap.size≤p:=by omega
 have HP:=aa hp;have FN:=aa hR;clear hp hR;go_enter func116,ntmps116;go_wp2_with fail;refine DU 0 (rB T w p s R) (fun _ w'=>s.size-nA w' p) rfl ?_ ?_
 ·rintro a' w' ⟨at',br,sq,v,ts,u,rfl,hI,jf⟩;have c1:w'.cell? ⟨p,1,none⟩=some (.int .i64 (at':Int)):=by rw[hI.z.cell];rfl
  have f1:w'.frozen? ⟨p,1,none⟩=false:=hI.z.frozen 1;have hle:=hI.le;have hmu:nA w' p=at':=kS hI.z;rw[hmu];cases he:((at':Int)==(s.size:Int))
  ·have cB:at'<s.size:=by
    have: ¬(at':Int)=s.size:=by simpa using he
    omega
   have Xx:at'<s.data.toList.length:=by rw[ab];exact cB
   have bC:s.data.toList.drop at'≠[]:=by
    intro h;have:=bT List.length h;simp at this;omega
   have ha0:an (s.data.toList.drop at') 0=s[at']:=by rw[gy,iv,aq cB]
   have asl:IntKind.i64.wrap ((at':Int)+1)=((at'+1:Nat):Int):=by rw[oG];omega
   have q1:((at':Int)≤(s.size:Int))=True:=by simp;omega
   have ZT: ∀n,(s.data.toList.drop at').drop n=s.data.toList.drop (at'+n):=fun n=>by rw[yF]
   have HI:=aa hI;have Ie:=aa bC;have HA:=aa ha0;have PI:=aa ZT;clear hI bC ha0 ZT;cases e9:((s[at'].toNat:Int)==9)
   ·cases Lu:((s[at'].toNat:Int)==10)
    ·cases e13:((s[at'].toNat:Int)==13)
     ·cases e32:((s[at'].toNat:Int)==32)
      ·cases e35:((s[at'].toNat:Int)==35)
       ·have yq:jv (an (s.data.toList.drop at') 0)=false:=by
         rw[HA.out];have h9:=kA e9;have Dn:=kA Lu;have h13:=kA e13;have h32:=kA e32;simp[jv];omega
        have afu:(an (s.data.toList.drop at') 0).toNat≠35:=by rw[HA.out];have:=kA e35;omega
        have vh:ts.length≤1099511627776:=by have:=HI.out.NX;omega
        have NY:=aa yq;have afv:=aa afu;clear yq afu;go_wp2_with fail;refine(QG hT w' w.heap.size p s at' br sq v ts hs cB (cC at') HI.out.FM HI.out.z HI.out.own vh gR).mono ?_;intro e w5 iI;cases hr:aX (s.data.toList.drop at') br sq with
        |bad k=>
         rw[hr]at iI;obtain⟨rfl,v5,Xy,ZU,mn⟩:=iI;have hk:=uF hr;have lI:((k:Int) != 0)=true:=by simp;omega
         have pC:=aa (HI.out.below.trans mn);have g1:w5.cell? ⟨p,1,none⟩=some (.int .i64 (at':Int)):=by rw[Xy.cell];rfl
         have ho:=HI.out.out;rw[sG Ie.out NY.out afv.out hr]at ho;have Ef:=aa (show R.2=some (at',k)by rw[ho]);clear mn ZU Xy ho hr hk;go_wp2_with fail;go_quiet (fail);go_wp2_with fail
         try simp only[Exit.jump]
         go_ret3
         exact fo.bad Ef.out (bS pC.out _)
        |tok k n b q=>
         rw[hr]at iI;obtain⟨rfl,v5,Xy,ZU,mn⟩:=iI;have hn:=jb Ie.out hr;simp only[mY,ab]at hn;have ho:=HI.out.out;rw[pd Ie.out NY.out afv.out hr,PI.out]at ho;have hI5:EF T w p s R (at'+n) b q v5 (ts++[⟨k,(s.data.toList.drop at').take n,at'⟩]) w5:=by
          refine⟨by omega,Xy,?_,HI.out.below.trans mn,hT.fN HI.out.FM mn,?_,?_⟩
          ·exact ZU
          ·have:=HI.out.NX;simp;omega
          ·rw[ho];simp
         have HI5:=aa hI5;clear Xy ZU mn ho hr hI5;go_wp2_with fail;go_wp2;go_step3;refine⟨rfl,rB.lay (by rfl) (HI5.out) jf,?_⟩;rw[kS HI5.out.z];omega
       ·obtain⟨t,ht⟩: ∃t,t=s.extract at' s.size:=⟨_,rfl⟩;have qX:t.data.toList=s.data.toList.drop at':=by rw[ht,fW]
        have FG:t.size=s.size-at':=by rw[ht];simp
        have akx:(an (s.data.toList.drop at') 0).toNat=35:=by rw[HA.out];have:=js e35;omega
        have ZV:=wS t.data.toList;have ZW:=ka Ie.out;have hrk:cS (s.data.toList.drop at')=min (ae eI t.data.toList 0+1) t.size:=by rw[cS,←qX,ab]
        have afn:=bI eI t.data.toList 0 (aT _);rw[ab]at ZV afn;have HRM:=aa (jE Ie.out akx at' br sq);rw[PI.out]at HRM;have Dv:=aa ht;clear ht qX;by_cases hk:ae eI t.data.toList 0<t.size
        ·rw[ar hk]at ZV;have Tg:cS (s.data.toList.drop at')=ae eI t.data.toList 0+1:=by omega
         rw[Tg]at HRM;clear hrk ZW Tg;generalize ae eI t.data.toList 0=k at*
         have a1:IntKind.i64.wrap ((k:Int)+1)=(k:Int)+1:=by rw[oG];omega
         have a2:IntKind.i64.wrap ((at':Int)+((k:Int)+1))=((at'+(k+1):Nat):Int):=by rw[oG];omega
         have a3:(0≤(k:Int))=True:=by simp
         go_wp2_with (first|(go_at_call 133;rw[←Dv.out];refine(Tryz.strings_IndexByte t 10 _).mono ?_;rintro e w3 ⟨rfl,rfl⟩;simp only[show (10:Int).toNat.toUInt8=10 from rfl];rw[ZV]));go_step3;refine⟨rfl,rB.lay (by rfl) (HI.out.move hT gR (n:=k+1) (by omega) HRM.out _ (by omega)) jf,?_⟩;rw[kS (HI.out.move hT gR (n:=k+1) (by omega) HRM.out _ (by omega)).z];omega
        ·rw[af hk]at ZV;have Tg:cS (s.data.toList.drop at')=t.size:=by omega
         rw[Tg]at HRM;clear hrk ZW Tg;go_wp2_with (first|(go_at_call 133;rw[←Dv.out];refine(Tryz.strings_IndexByte t 10 _).mono ?_;rintro e w3 ⟨rfl,rfl⟩;simp only[show (10:Int).toNat.toUInt8=10 from rfl];rw[ZV]));go_step3;refine⟨rfl,rB.lay (by rfl) (HI.out.move hT gR (n:=t.size) (by omega) HRM.out _ (by omega)) jf,?_⟩;rw[kS (HI.out.move hT gR (n:=t.size) (by omega) HRM.out _ (by omega)).z];omega
      ·go_wp2_with fail;go_wp2;go_step3;have nr:jv (an (s.data.toList.drop at') 0)=true:=by rw[HA.out];have:=js e32;simp[jv];omega
       refine⟨rfl,rB.lay (by rfl) (HI.out.move hT gR (n:=1) (by omega) (by rw[cK Ie.out nr,PI.out]) _ (by omega)) jf,?_⟩;rw[kS (HI.out.move hT gR (n:=1) (by omega) (by rw[cK Ie.out nr,PI.out]) _ (by omega)).z];omega
     ·go_wp2_with fail;go_wp2;go_step3;have nr:jv (an (s.data.toList.drop at') 0)=true:=by rw[HA.out];have:=js e13;simp[jv];omega
      refine⟨rfl,rB.lay (by rfl) (HI.out.move hT gR (n:=1) (by omega) (by rw[cK Ie.out nr,PI.out]) _ (by omega)) jf,?_⟩;rw[kS (HI.out.move hT gR (n:=1) (by omega) (by rw[cK Ie.out nr,PI.out]) _ (by omega)).z];omega
    ·go_wp2_with fail;go_wp2;go_step3;have nr:jv (an (s.data.toList.drop at') 0)=true:=by rw[HA.out];have:=js Lu;simp[jv];omega
     refine⟨rfl,rB.lay (by rfl) (HI.out.move hT gR (n:=1) (by omega) (by rw[cK Ie.out nr,PI.out]) _ (by omega)) jf,?_⟩;rw[kS (HI.out.move hT gR (n:=1) (by omega) (by rw[cK Ie.out nr,PI.out]) _ (by omega)).z];omega
   ·go_wp2_with fail;go_wp2;go_step3;have nr:jv (an (s.data.toList.drop at') 0)=true:=by rw[HA.out];have:=js e9;simp[jv];omega
    refine⟨rfl,rB.lay (by rfl) (HI.out.move hT gR (n:=1) (by omega) (by rw[cK Ie.out nr,PI.out]) _ (by omega)) jf,?_⟩;rw[kS (HI.out.move hT gR (n:=1) (by omega) (by rw[cK Ie.out nr,PI.out]) _ (by omega)).z];omega
  ·have cB:at'=s.size:=by
    have:(at':Int)=s.size:=by simpa using he
    omega
   have c4:w'.cell? ⟨p,4,none⟩=some v:=by rw[hI.z.cell];rfl
   have HI:=aa hI;clear hI;go_wp2_with fail
   try simp only[Exit.jump]
   go_ret3
   have ho:=HI.out.out;rw[cB,Ol (by rw[ab];omega),sF,mu]at ho;have h2:R.2=none:=by rw[ho]
   have h1:R.1=ts:=by rw[ho]
   exact fo.aft h2 (by rw[h1];exact HI.out.own) HI.out.below
 ·intro Q' hpass hQ';by_cases agA:(33554432:Int)<(s.size:Int)
  ·go_wp2_with fail;refine hQ' _ _ _ (fun _=>by simp) ?_;go_ret3;have h2:R.2=some (0,1):=by rw[FN.out,eQ,ar (by rw[ab];omega)]
   exact fo.bad h2 (aS _ _)
  ·go_wp2_with fail;go_wp2;go_step3
   try simp only[Exit.then]
   rename_i K hK;refine hK _ _ ?_;obtain rfl:=HP.out;have hb:=(aS w.heap.size w).alloc (aP _) (.cells #[.string s,.int .i64 0,.bool false,.bool false,.slice none 0 0] 191);refine hpass _ _ (rB.lay (at':=0) (br:=false) (sq:=false) (v:=.slice none 0 0) (ts:=[]) (by rfl) ⟨aT _,aH.new w _ _,ur _ _ _ _,hb,hT.fN kD hb,aT _,?_⟩ (by omega));rw[FN.out,eQ,af (by rw[ab];omega)];rfl
def LP (l:List UInt8):List Tok×Option (Nat×Nat)→Nat
 |([t],none)=>if t.text=l then t.kind else 0
 |_=>0
def fw (s:ByteArray):Nat:=LP s.data.toList (eQ s.data.toList)
def dy (s:ByteArray):Bool:=s.data.toList.isEmpty
def fx (s:ByteArray):Bool:=fw s==4
def ix (s:ByteArray):Bool:=fw s==3||fw s==4
def kP (s:ByteArray) (qd:Bool):Bool:=(fw s==1||(qd&&fw s==2))&& !word s.data.toList
def bG (l:List ByteArray):Bool:=l.all fun s=>dO s.data.toList
def cF (m:PM):Bool:=dO m.name.data.toList&&decide (1≤m.op)&&decide (m.op≤4)&&valid m.value.data.toList
def iL (s:ByteArray):ByteArray:=if 1<s.size∧(an s.data.toList 0).toNat=45 then s.extract 1 s.size else s
def nf (l:List UInt8) (s:ByteArray):Bool:=s.data.toList==l
def iG (off tim:ByteArray):Bool:=(dy (iL off)||fx (iL off))&&(dy tim||nf [115,116,97,114,116] tim||nf [101,110,100] tim||fw tim==3)
def E7 (r:PR):Bool:=
 if r.given=false then !r.on&&r.mls.isEmpty&&decide (r.card=0)&&r.inc.isEmpty
 else decide (0≤r.card)&&decide (r.card≤2)&& !(decide (r.card=0)&& !r.inc.isEmpty)&&bG r.mls&&bG r.inc
def mH:List (List UInt8):=[[111,114],[97,110,100],[117,110,108,101,115,115],[61,61],[33,61],[60],[62],[60,61],[62,61],[43],[45],[42],[47],[37],[94]]
def mI:List (List UInt8):=[[97,118,103],[98,111,116,116,111,109,107],[99,111,117,110,116],[99,111,117,110,116,95,118,97,108,117,101,115],[103,114,111,117,112],[109,97,120],[109,105,110],[113,117,97,110,116,105,108,101],[115,116,100,100,101,118],[115,116,100,118,97,114],[115,117,109],[116,111,112,107]]
def LQ (r:PR):Bool:=dy r.op
def rI (r:PR):Bool:=dy r.text
def F6 (r:PR):Bool:=r.ms.isEmpty
def yO (r:PR):Bool:=dy r.bQ
def qe (r:PR):Bool:=dy r.step
def qf (r:PR):Bool:=dy r.off&&dy r.tim
def fA (r:PR):Bool:= !r.given&& !r.on&&r.mls.isEmpty&&decide (r.card=0)&&r.inc.isEmpty
def jC (r:PR):Bool:=r.labels.isEmpty
def de (k n:Int):Bool:=
 if k=1∨k=2∨k=3 then decide (n=0)else if k=4∨k=5∨k=6 then decide (n=1)else if k=7 then decide (n=2)else if k=8 then decide (0≤n)else if k=9 then decide (n=1)||decide (n=2)else false
def lP (r:PR):Bool:=
 if r.kind=1∨r.kind=2 then LQ r&&F6 r&&yO r&&qe r&&qf r&& !r.bool&&fA r&& !r.without&&jC r
 else if r.kind=3 then LQ r&&yO r&&qe r&& !r.bool&&fA r&& !r.without&&jC r
 else if r.kind=4 then LQ r&&rI r&&F6 r&&qe r&&qf r&& !r.bool&&fA r&& !r.without&&jC r
 else if r.kind=5 then LQ r&&rI r&&F6 r&& !r.bool&&fA r&& !r.without&&jC r
 else if r.kind=6∨r.kind=8 then rI r&&F6 r&&yO r&&qe r&&qf r&& !r.bool&&fA r&& !r.without&&jC r
 else if r.kind=7 then rI r&&F6 r&&yO r&&qe r&&qf r&& !r.without&&jC r
 else rI r&&F6 r&&yO r&&qe r&&qf r&& !r.bool&&fA r
def ax (r:PR):Bool:=
 de r.kind r.kids&&lP r&&
 (if r.kind=1 then ix r.text
 else if r.kind=2 then valid r.text.data.toList
 else if r.kind=3 then(dy r.text||kP r.text true)&&iG r.off r.tim&&r.ms.all cF
 else if r.kind=4 then fx r.bQ
 else if r.kind=5 then fx r.bQ&&(dy r.step||fx r.step)&&iG r.off r.tim
 else if r.kind=6 then nf [43] r.op||nf [45] r.op
 else if r.kind=7 then mH.contains r.op.data.toList&&E7 r
 else if r.kind=8 then kP r.op false
 else mI.contains r.op.data.toList&&bG r.labels)
end Go.Proofs.YtcdoilkjmjbgmaaGreatDoor
namespace Go.Proofs.YtcdoilkjmjbgmaaGreatDoor
variable {n c k deep:Nat} {rs x y:List PR} {r:PR} {s:List Nat}
def nk (r:PR):Nat:=r.kids.toNat
def trees:Nat→List PR→Bool
 |n,[]=>n==0
 |0,_::_=>false
 |n+1,r::rs=>trees (nk r+n) rs
theorem jY:trees n []=true↔n=0:=by cases n<;>simp[trees]
theorem Cq:trees 0 rs=true↔rs=[]:=by cases rs<;>simp[trees]
theorem MM:trees (n+1) (r::rs)=trees (nk r+n) rs:=rfl
theorem ze : ∀ (rs : List PR) (a b : Nat), trees (a + b) rs = true → ∃ x y, rs = x ++ y ∧ trees a x = true ∧ trees b y = true
  | [], a, b, h => by
    have:=jY.1 h
    exact⟨[],[],rfl,jY.2 (by omega),jY.2 (by omega)⟩
  | r :: rs, 0, b, h => ⟨[], r :: rs, rfl, rfl, by rw [mw] at h; exact h⟩
  | r :: rs, a + 1, b, h => by
    rw[show a+1+b=(a+b)+1 by omega,MM,←Bd]at h
    obtain⟨x,y,h1,h2,h3⟩:=ze rs (nk r+a) b h
    exact⟨r::x,y,by rw[h1];rfl,h2,h3⟩
theorem Cr : ∀ (x y : List PR) (a b : Nat), trees a x = true → trees b y = true → trees (a + b) (x ++ y) = true
  | [], y, a, b, h, k => by
    have:=jY.1 h
    subst this
    rw[mw];exact k
  | r :: x, y, 0, b, h, k => by simp [trees] at h
  | r :: x, y, a + 1, b, h, k => by
    rw[show a+1+b=(a+b)+1 by omega]
    show trees (nk r+(a+b)) (x++y)=true
    rw[←Bd]
    exact Cr x y (nk r+a) b h k
theorem sK (h:trees (n+1) rs=true): ∃r t,rs=r::t∧trees (nk r+n) t=true:=by
 cases rs with
 |nil=>simp[trees]at h
 |cons r t=>exact⟨r,t,rfl,h⟩
theorem BN: ∀(rs:List PR) (n:Nat),trees n rs=true→n≤rs.length
 |[],n,h=>by have:=jY.1 h;omega
 |r::rs,0,h=>aT _
 |r::rs,n+1,h=>by
  have:=BN rs (nk r+n) h;simp only[dI];omega
def aR:List Nat→List PR→List Nat
 |d::ds,r::rs=>d::aR (List.replicate (nk r) (d+1)++ds) rs
 |_,_=>[]
theorem jF (ds:List Nat):aR ds []=[]:=by cases ds<;>rfl
theorem wT : ∀ (x y : List PR) (ds es : List Nat), trees ds.length x = true → aR (ds ++ es) (x ++ y) = aR ds x ++ aR es y
  | [], y, ds, es, h => by
    have:=jY.1 h
    have:ds=[]:=pH.1 this
    subst this;rfl
  | r :: x, y, [], es, h => by simp [trees] at h
  | r :: x, y, a :: ds, es, h => by
    rw[pJ,pJ,aR,aR,pJ,←lj]
    congr 1
    refine wT x y _ es ?_
    rw[fT,uh]
    exact h
theorem lS: ∀(rs:List PR) (ds:List Nat),trees ds.length rs=true→(aR ds rs).length=rs.length
 |[],ds,_=>by rw[jF];rfl
 |r::rs,[],h=>by simp[trees]at h
 |r::rs,d::ds,h=>by
  rw[aR,dI,dI,lS rs _ (by rw[fT,uh];exact h)]
def my (l:List Nat):Nat:=l.foldl max 0
theorem foldl_max (l:List Nat): ∀a b:Nat,l.foldl max (max a b)=max a (l.foldl max b):=by
 induction l with
 |nil=>intro a b;rfl
 |cons x l ih=>intro a b;rw[List.foldl_cons,List.foldl_cons,Nat.max_assoc,ih]
theorem pg (a:Nat) (l:List Nat):my (a::l)=max a (my l):=by
 rw[my,List.foldl_cons,show max 0 a=max a 0 by omega,foldl_max];rfl
theorem JC (a b:List Nat):my (a++b)=max (my a) (my b):=by
 induction a with
 |nil=>simp[my]
 |cons x a ih=>rw[pJ,pg,pg,ih,Nat.max_assoc]
def iM (rs:List PR):Nat:=my (aR [1] rs)
def iy:List PR→Bool
 |[]=>false
 |q::_=>decide (q.kind=3)
def cZ:List PR→Bool
 |[]=>true
 |r::rs=>(!decide (r.kind=4)||iy rs)&&cZ rs
def dz (rs:List PR):Bool:=trees 1 rs&&rs.all ax&&cZ rs
def cx (rs:List PR):Nat:=if dz rs=true then(if 128<iM rs then 3 else 0)else 120
structure rk where
 name:ByteArray
 ms:List PM
 off:ByteArray
 tim:ByteArray
def jT (rs:List PR):List rk:=(rs.filter fun r=>decide (r.kind=3)).map fun r=>⟨r.text,r.ms,r.off,r.tim⟩
def Bo:List Nat→List Nat
 |[]=>[]
 |c::s=>List.replicate (c-1) (s.length+2)++Bo s
def vj:List Nat→List Nat
 |[]=>[]
 |c::s=>List.replicate c (s.length+2)++Bo s
def norm:List Nat→List Nat
 |0::c::s=>norm ((c-1)::s)
 |[0]=>[]
 |s=>s
 termination_by s=>s.length
theorem jj (c:Nat) (s:List Nat):norm (0::c::s)=norm ((c-1)::s):=by rw[norm]
theorem kT:norm [0]=[]:=by rw[norm]
theorem fJ:norm []=[]:=by rw[norm]<;>simp
theorem kV (s:List Nat) (h:0<c):norm (c::s)=c::s:=by
 rw[norm]
 ·rintro c' s' h';injection h' with h1 _
  omega
 ·intro h';injection h' with h1 _
  omega
theorem E8: ∀s:List Nat,vj (norm s)=vj s
 |[]=>by rw[fJ]
 |[0]=>by rw[kT];rfl
 |0::c::s=>by rw[jj,E8 ((c-1)::s)];simp[vj,Bo]
 |(c+1)::s=>by rw[kV s (by omega)]
 termination_by s=>s.length
theorem E9 : ∀ s : List Nat, (norm s).length ≤ s.length
  | [] => by rw [fJ]; exact aP _
  | [0] => by rw [kT]; simp
  | 0 :: c :: s => by
    rw[jj]
    have:=E9 ((c-1)::s)
    simp only[dI]at this ⊢;omega
  | (c + 1) :: s => by rw [kV s (by omega)]; exact aP _
  termination_by s=>s.length
theorem dW (hk:k<rs.length):rs=rs.take k++rs[k]::rs.drop (k+1):=by
 rw[←nV hk,tB]
def Rest (s:List Nat):Prop:= ∀c t,s=c::t→0<c
theorem Fa: ∀s:List Nat,Rest (norm s)
 |[]=>by rw[fJ];intro c t h;cases h
 |[0]=>by rw[kT];intro c t h;cases h
 |0::c::s=>by rw[jj];exact Fa ((c-1)::s)
 |(c+1)::s=>by rw[kV s (by omega)];intro c' t h;injection h with h1 _;omega
 termination_by s=>s.length
theorem sL (h:Rest s) (hn:s≠[]):vj s=(s.length+1)::Bo s:=by
 cases s with
 |nil=>exact absurd rfl hn
 |cons c t=>
  have:=h c t rfl;obtain⟨d,rfl⟩: ∃d,c=d+1:=⟨c-1,by omega⟩;simp[vj,Bo,List.replicate_succ]
theorem UZ (h:Rest s):vj s=[]↔s=[]:=by
 constructor
 ·intro h1;cases s with
  |nil=>rfl
  |cons c t=>rw[sL h (by simp)]at h1;cases h1
 ·rintro rfl;rfl
structure fk (x:List PR) (s:List Nat) (deep:Nat):Prop where
 rest:Rest s
 Ω:deep=my (aR [1] x)
 more:x≠[]→ ∀y,trees 1 (x++y)=trees (vj s).length y∧aR [1] (x++y)=aR [1] x++aR (vj s) y
 none_:x=[]→s=[]
theorem fk.start:fk [] [] 0:=⟨fun c t h=>(by cases h),rfl,fun h=>absurd rfl h,fun _=>rfl⟩
theorem QI (l:List Nat) (a:Nat):my (l++[a])=max (my l) a:=by
 rw[JC,show my [a]=a by rw[pg];simp[my]]
theorem fk.step (h:fk x s deep) (r:PR) (hs:x=[]∨s≠[]):
  fk (x++[r]) (norm (nk r::s)) (max deep (s.length+1)):=by
 have hp: ∀y,trees 1 ((x++[r])++y)=trees (vj (nk r::s)).length y∧aR [1] ((x++[r])++y)=aR [1] x++(s.length+1)::aR (vj (nk r::s)) y:=by
  intro y;rw[lj,List.singleton_append];by_cases hx:x=[]
  ·have h0:=h.none_ hx;subst hx h0;simp only[vy,vj,Bo,mu,oB,mw,uh,aR,vy];refine⟨?_,by simp⟩;show trees (nk r+0) y=_;rfl
  ·have hn:s≠[]:=hs.resolve_left hx;obtain⟨h1,h2⟩:=h.more hx (r::y);rw[h1,h2,sL h.rest hn];refine⟨?_,by simp[aR,vj]⟩;show trees (nk r+(Bo s).length) y=_;simp[vj]
 refine⟨Fa _,?_,fun _ y=>?_,fun h=>absurd h (by simp)⟩
 ·have h1:=(hp []).2;rw[mu,jF]at h1;rw[h1,QI,h.Ω]
 ·obtain⟨h1,h2⟩:=hp y;have h3:=(hp []).2;rw[mu,jF]at h3;rw[E8];exact⟨h1,by rw[h2,h3,lj];rfl⟩
theorem fk.full (h:fk x s deep) (hx:x≠[]) (hs:s=[]) (r:PR) (y:List PR):trees 1 (x++r::y)=false:=by
 rw[(h.more hx (r::y)).1,hs];rfl
theorem fk.done (h:fk x s deep):trees 1 x=(!x.isEmpty&&s.isEmpty):=by
 by_cases hx:x=[]
 ·subst hx;rfl
 ·have h1:=(h.more hx []).1;rw[mu]at h1;rw[h1];have h2:=UZ h.rest;cases s with
  |nil=>simp[vj,trees,hx]
  |cons c t=>
   rw[sL h.rest (by simp)];simp[trees]
theorem fk.iM {x:List PR} {s:List Nat} {deep:Nat} (h:fk x s deep):deep=iM x:=h.Ω
theorem Cs (h:(x++r::y).length<nk r):trees 1 (x++r::y)=false:=by
 have gen: ∀(x:List PR) (n:Nat),(x++r::y).length<nk r→trees n (x++r::y)=false:=by
  intro x;induction x with
  |nil=>
   intro n h;cases n with
   |zero=>rfl
   |succ n=>
    cases hc:trees (n+1) ([]++r::y)with
    |false=>rfl
    |true=>
     have h1:=BN y (nk r+n) hc;simp only[vy,dI]at h;omega
  |cons q x ih=>
   intro n h;cases n with
   |zero=>rfl
   |succ n=>exact ih _ (by simp only[pJ,dI]at h;omega)
 exact gen x 1 h
theorem Kh (h:cZ y=false):cZ (x++y)=false:=by
 induction x with
 |nil=>exact h
 |cons r x ih=>rw[pJ,cZ,ih,tF]
theorem GQ (h:iy y=false) (hk:r.kind=4):cZ (x++r::y)=false:=by
 refine Kh ?_;rw[cZ,h,dQ hk];rfl
def rC (x y:List PR):Bool:=x.all ax&&(cZ (x++y)==cZ y)
theorem GR (h:(cZ (x++r::y)==cZ (r::y))=true) (hr:(!decide (r.kind=4)||iy y)=true):
  (cZ ((x++[r])++y)==cZ y)=true:=by
 rw[lj,List.singleton_append,cn.1 h,cZ,hr,mA];simp
theorem Ct (h:rC x (r::y)=true) (hs:ax r=true) (hr:(!decide (r.kind=4)||iy y)=true):rC (x++[r]) y=true:=by
 unfold rC at h ⊢
 rw[kF]at h ⊢
 exact⟨by rw[IS,h.1];simp[hs],GR h.2 hr⟩
theorem Fb (h:rC x []=true):dz x=trees 1 x:=by
 unfold rC at h;rw[kF,mu]at h;rw[dz,h.1,cn.1 h.2];simp[cZ]
end Go.Proofs.YtcdoilkjmjbgmaaGreatDoor
namespace Go.Proofs.YtcdoilkjmjbgmaaGreatDoor
open Go.RowKit
open Go.Proofs.Tryz
variable {W W' w0 w w':World} {b n c g e x k o a base F r p at' er size m d:Nat} {xs:List Value} {u v:Value} {s t:List Nat} {P:Program} {ops:Array Oper} {rest:List Oper} {l:List UInt8} {ao:Option Addr} {T:Nat→World→Prop} {br sq rm col:Bool} {L:List (Nat×PR)} {rs:List PR}
theorem BO : ∀ s : List Nat, (∀ c ∈ s.tail, 0 < c) → ∀ c ∈ norm s, 0 < c
  | [], _ => by rw [fJ]; intro c h; cases h
  | [0], _ => by rw [kT]; intro c h; cases h
  | 0 :: c :: s, h => by
    rw[jj]
    exact BO ((c-1)::s) fun x hx=>h x (A6 _ hx)
  | (c + 1) :: s, h => by
    rw[kV s (by omega)]
    intro x hx
    rcases gq.1 hx with rfl|hx
    · omega
    · exact h x hx
  termination_by s=>s.length
def pV (n:Nat):Value:=.int .i64 (n:Int)
def dM (b:Nat) (W:World) (v:Value) (s:List Nat):Prop:=W.ownsRow b 3 1 v s.length (s.reverse.map pV)
theorem dM.nil (b:Nat) (W:World):dM b W (.slice none 0 0) []:=ur _ _ _ _
theorem YQ {e:TypeId} (h:W.ownsRow b e 1 (.slice (some ⟨g,0,none⟩) (n+1) c) (n+1) (xs++[u])):W.ownsRow b e 1 (.slice (some ⟨g,0,none⟩) n c) n xs:=by
 have hl:xs.length=n:=by have:=h.1;simp at this;omega
 refine⟨by omega,?_⟩;rcases h.2 with⟨hv,_⟩|⟨g',cap,cur,hv,h1,h2,h3,h4,h5,h6⟩
 ·cases hv
 ·injection hv with e1 e2 e3
  injection e1 with e1
  injection e1 with e1 _ _
  subst e1 e3;refine .inr ⟨g,c,cur,rfl,h1,h2,by omega,h4,h5,?_⟩;rw[oC]at h6 ⊢
  have:=bT (List.take n) h6;rw[List.take_take,mr (by omega)]at this;rw[this,A4 (by omega),DC (by omega)]
theorem dM.form (h:dM b W v s):(v= .slice none 0 0∧s=[])∨ ∃g c,v= .slice (some ⟨g,0,none⟩) s.length c∧b≤g∧g<W.heap.size:=by
 rcases h.2 with⟨hv,hn⟩|⟨g,cap,cur,hv,h1,h2,_⟩
 ·exact .inl ⟨hv,pH.1 hn⟩
 ·exact .inr ⟨g,cap,hv,h1,(u7.1 h2).1⟩
theorem dM.top (h:dM b W (.slice (some ⟨g,0,none⟩) n c) (x::t)):W.cell? ⟨g,t.length,none⟩=some (.int .i64 (x:Int))∧W.frozen? ⟨g,t.length,none⟩=false:=by
 have h1:=h.2;obtain rfl:n=(x::t).length:=by
  rcases h.2 with⟨hv,_⟩|⟨g',cap,cur,hv,_⟩
  ·cases hv
  ·injection hv
 refine⟨?_,World.ownsRow.frozenAt h _⟩;rw[IG h t.length (by simp)];simp[pV]
theorem dM.cap {b:Nat} {W:World} {g c:Nat} {s:List Nat} {n:Nat} (h:dM b W (.slice (some ⟨g,0,none⟩) n c) s):n≤c:=by
 rcases h.2 with⟨hv,_⟩|⟨g',cap,cur,hv,_,_,h3,_⟩
 ·cases hv
 ·injection hv with e1 e2 e3
  omega
theorem dM.pop (h:dM b W (.slice (some ⟨g,0,none⟩) (n+1) c) (x::t)) (hn:n=t.length):dM b W (.slice (some ⟨g,0,none⟩) n c) t:=by
 subst hn;unfold dM at h ⊢
 rw[List.reverse_cons,mZ,dI]at h;exact YQ h
theorem dM.dec (h:dM b W (.slice (some ⟨g,0,none⟩) n c) (x::t)) (y:Nat):dM b (W.setCell ⟨g,t.length,none⟩ (.int .i64 (y:Int))) (.slice (some ⟨g,0,none⟩) n c) (y::t):=by
 obtain rfl:n=(x::t).length:=by
  rcases h.2 with⟨hv,_⟩|⟨g',cap,cur,hv,_⟩
  ·cases hv
  ·injection hv
 have h2:=(World.ownsRow.stored h t.length (.int .i64 (y:Int))).1;have e:((x::t).reverse.map pV).set t.length (.int .i64 (y:Int))=(y::t).reverse.map pV:=by
  rw[List.reverse_cons,mZ,List.reverse_cons,mZ,Om _ _ (by simp)];simp[pV]
 rw[e]at h2;exact h2
theorem dM.below (h:dM b W v s) (hb:Below W.heap.size W W'):dM b W' v s:=aD h hb
theorem norm_le {m : Nat} : ∀ s : List Nat, (∀ c ∈ s, c ≤ m) → ∀ c ∈ norm s, c ≤ m
  | [], _ => by rw [fJ]; intro c h; cases h
  | [0], _ => by rw [kT]; intro c h; cases h
  | 0 :: c :: s, h => by
    rw[jj]
    refine norm_le ((c-1)::s) fun x hx=>?_
    rcases gq.1 hx with rfl|hx
    · have := h c (by simp); omega
    · exact h x (by simp [hx])
  | (c + 1) :: s, h => by rw [kV s (by omega)]; exact h
  termination_by s=>s.length
theorem dM.sl (h:dM b W v s): ∃a c,v= .slice a s.length c:=by
 rcases h.form with⟨rfl,rfl⟩|⟨g,c,rfl,_⟩
 ·exact⟨none,0,rfl⟩
 ·exact⟨_,c,rfl⟩
theorem dM.push (h:W.ownsRow b 3 1 v (s.length+1) (s.reverse.map pV++[.int .i64 (k:Int)])):dM b W v (k::s):=by
 unfold dM;rw[List.reverse_cons,mZ,dI];exact h
def rN:Value→Nat
 | .slice _ n _=>n
 |_=>0
theorem BP:(prog.info? 3).map (fun i=>(i.zero,i.size,i.bytes))=some (some (.int .i64 0),1,8):=by kernel_rfl
def fl (v v':Value):Prop:= ∃g n m cap,v= .slice (some ⟨g,0,none⟩) n cap∧v'= .slice (some ⟨g,0,none⟩) m cap
theorem CV (w:World) (base:Nat) (t ty e:TypeId) (i:TypeInfo) (z:Value) (size bytes:Nat) (ht:P.underlying t=some (.slice e)) (hi:P.info? e=some i) (hz:i.zero=some z)
  (TG:i.size=size) (NV:i.bytes=bytes) (Py:z.cells.size=size) (jf:0<size)
  (v:Value) (n:Nat) (xs:List Value) (aL:w.ownsRow base e size v n xs)
  (a:Addr) (m c:Nat) (news:List Value) (hl:news.length=m*size) (Oy: ∀j u,news[j]? =some u→w.cell? (a.add j)=some u) (h1: ∀u∈news,u.oneCell'=true)
  (h63:n+m≤maxLen) (L6:(n+m)*bytes≤140737488355328) (cU:base≤w.heap.size) (hm:0<m):
  ∃v' w',(Builtin.append_ #[t,t] ty #[v,.slice (some a) m c]).run P w= .ok v' w'∧w'.ownsRow base e size v' (n+m) (xs++news)∧w.grownBy w' v.ownBlock∧
   (fl v v'∨(v'.ownBlock=some w.heap.size∧w.grownBy w' none)):=by
 obtain⟨v',w',hr,ho,hg,aky⟩:=run_append_own (P:=P) w base t ty e i z size bytes ht hi hz TG NV Py jf v n xs aL a m c news hl Oy h1 h63 L6 cU;refine⟨v',w',hr,ho,hg,?_⟩;rcases aL.2 with⟨rfl,rfl⟩|⟨g,cap,cur,rfl,hbg,Ig,hnc,hcm,aZ,ao8⟩
 ·refine .inr ⟨?_,hg⟩;have hb:m*i.bytes≤281474976710656:=by rw[NV];rw[mw]at L6;omega
  have PF:=run_append_nil (P:=P) w t ty e i z ht hi hz a m c news (by rw[TG];exact hl) Oy hm (by have:=h63;simp only[maxLen]at this;omega) hb;rw[PF]at hr;injection hr with e1 e2
  subst e1;rfl
 ·subst TG;by_cases aa0:n+m≤cap
  ·have akz:n*i.size+news.length≤cur.size:=by rw[hl,aZ,←oK];exact fc _ aa0
   have PF:=run_append_room (P:=P) w t ty e i ht hi g n cap cur Ig a m c news hl Oy h1 aa0 akz;rw[PF]at hr;injection hr with e1 e2
   subst e1;exact .inl ⟨g,n,n+m,cap,rfl,rfl⟩
  ·have holds: ∀j u,xs[j]? =some u→w.cell? ((⟨g,0,none⟩:Addr).add j)=some u:=aL.cells (g:=g) rfl;have PF:=run_append_grow (P:=P) w t ty e i z ht hi hz ⟨g,0,none⟩ n cap xs aL.1 holds a m c news hl Oy (by omega) (by have:=h63;simp only[maxLen]at this;omega) (growslice_fits (by omega) (by rw[NV];exact L6));rw[PF]at hr;injection hr with e1 e2
   subst e1;refine .inr ⟨rfl,?_⟩;rw[←e2];exact⟨rfl,rfl,rfl,by simp,fun _ hk _=>heap_alloc_old w.drew _ hk⟩
theorem ft {o:Oper} {a:Act} {Q:Exit → Act → World → Prop} 
    (hg : o.guard = none) (s x : Operand) (t : TypeId) (Dl : o.op = Op.call { callee := Callee.builtin Builtin.append, args := #[s, x], argTypes := #[t, t] })
    (base : Nat) (e : TypeId) (z : Value) (size bytes : Nat) (oL : (P.info? e).map (fun i => (i.zero, i.size, i.bytes)) = some (some z, size, bytes)) (h1 : P.underlying t = some (.slice e)) (Py : z.cells.size = size) (jf : 0 < size)
    (v : Value) (n : Nat) (xs : List Value) (hs : a.eval s = v) (aL : w0.ownsRow base e size v n xs) (us : List Value) (hus : us.length = size)
    (hx : a.eval x = .slice (some ⟨w0.heap.size, 0, none⟩) 1 1) (Xf : ∀ u ∈ us, u.oneCell' = true) (xn : n + 1 ≤ maxLen) (hb : (n + 1) * bytes ≤ 140737488355328) (cU : base ≤ w0.heap.size)
    (hK : ∀ v' w', w'.ownsRow base e size v' (n + 1) (xs ++ us) → w0.grownBy w' v.ownBlock → (fl v v' ∨ (v'.ownBlock = some (w0.heap.size + 1) ∧ w0.grownBy w' none)) → wpList P ops Q rest (a.put o.dst v') w') :
    wpList P ops Q (o::rest) a (w0.alloc (.cells us.toArray e)):=by
  obtain⟨i,hi,hz,Sz,NV⟩:=mC oL
  refine wpList_plain hg fun K yr=>?_
  obtain ⟨v', w', hr, r1, r2, r3⟩ := CV (P := P) (w0.alloc (.cells us.toArray e)) base t o.type e i z size bytes h1 hi hz Sz NV Py jf v n xs (aL.alloc _) ⟨w0.heap.size, 0, none⟩ 1 1 us (by omega)
    (by intro j u hu
        have hj:j<us.length:=(FX.1 hu).1
        rw[mB,mw,zS _ _ _ _ rfl]
        simpa using hu) Xf xn hb (by simp;omega) (by omega)
  unfold Oper.wp execOp
  simp only[Dl,resolve,invoke,builtin,vA,Bf,A7,List.map_toArray,mv,oI,hs,hx,hr]
  refine yr _ _ (hK v' w' r1 (dh (Er w0 _ _) r2) ?_)
  rcases r3 with h|⟨h,h'⟩
  · exact .inl h
  · exact .inr ⟨by simpa using h, dh (Er w0 _ _) h'⟩
def EG (w:World) (v:Value) (xs:List (Int×ByteArray×Int)):Prop:=
 (v= .slice none 0 0∧xs=[])∨ ∃g o c,v= .slice (some ⟨g,o,none⟩) xs.length c∧rG w g o xs
theorem rG.below {xs:List (Int×ByteArray×Int)} (h:rG w g o xs) (hb:Below w.heap.size w w'):rG w' g o xs:=
 ⟨gO h.1 hb.size,fun j hj=>⟨(hb.cell (p:=⟨g,_,none⟩) h.1).trans (h.2 j hj).1,(hb.cell (p:=⟨g,_,none⟩) h.1).trans (h.2 j hj).2.1,(hb.cell (p:=⟨g,_,none⟩) h.1).trans (h.2 j hj).2.2⟩⟩
theorem EG.below {w w':World} {v:Value} {xs:List (Int×ByteArray×Int)} (h:EG w v xs) (hb:Below w.heap.size w w'):EG w' v xs:=by
 rcases h with h|⟨g,o,c,h1,h2⟩
 ·exact .inl h
 ·exact .inr ⟨g,o,c,h1,h2.below hb⟩
def Oz (l:List UInt8):Bool:=digit (an l 0)||((an l 0).toNat==46&&decide (1<l.length)&&digit (an l 1))
def acn (l:List UInt8):Bool:=(List.range (l.length+1)).all fun k=> !Oz (l.drop k)||decide (ag (l.drop k)<aW (l.drop k))
theorem U0 (h:AD l):Oz l=true:=by
 rcases h with h|⟨h1,h2,h3⟩
 ·simp[Oz,h]
 ·simp[Oz,h1,h2,h3]
theorem quiet_of (h:acn l=true) (ok:List UInt8→Prop) (k:Nat):TF ok (l.drop k):=by
 intro hh hn;rcases dD k (l.length+1)with hk|hk
 ·have:=rl.1 h k (qF.2 hk);rw[U0 hh]at this;simp at this;omega
 ·have:l.drop k=[]:=s9 (by omega);rw[this]at hh;rcases hh with h|⟨_,h,_⟩
  ·exact absurd h (by decide)
  ·exact absurd h (by decide)
def DI (t:Tok):Int×ByteArray×Int:=((t.kind:Int),⟨t.text.toArray⟩,(t.pos:Int))
theorem GS (ts:List Tok): ∀(j:Nat) (h:j<ts.length),(aK ts)[j*3]? =some (.int .i64 (ts[j].kind:Int))∧(aK ts)[j*3+1]? =some (.string ⟨ts[j].text.toArray⟩)∧(aK ts)[j*3+2]? =some (.int .i64 (ts[j].pos:Int)):=by
 induction ts with
 |nil=>intro j h;simp at h
 |cons t r ih=>
  intro j h;have e:aK (t::r)=t.cells++aK r:=by simp[aK]
  cases j with
  |zero=>rw[e];exact⟨rfl,rfl,rfl⟩
  |succ j=>
   have hl:t.cells.length=3:=rfl;obtain⟨a,b,c⟩:=ih j (by simpa using h);rw[e];refine⟨?_,?_,?_⟩
   ·rw[A5 (by rw[hl];omega),hl,show (j+1)*3-3=j*3 by omega];exact a
   ·rw[A5 (by rw[hl];omega),hl,show (j+1)*3+1-3=j*3+1 by omega];exact b
   ·rw[A5 (by rw[hl];omega),hl,show (j+1)*3+2-3=j*3+2 by omega];exact c
theorem DV {cap:Nat} {ts:List Tok} (h:w.ownsRow base e 3 (.slice (some ⟨g,0,none⟩) ts.length cap) ts.length (aK ts)):rG w g 0 (ts.map DI):=by
 refine⟨(h.lt g rfl).2,fun j hj=>?_⟩;have Pw:j<ts.length:=by simpa using hj
 obtain⟨a,b,c⟩:=GS ts j Pw;have e:(ts.map DI)[j]=DI ts[j]:=by simp
 rw[e,mw];refine⟨?_,?_,?_⟩
 ·rw[h.cellAt _ (by omega),a];rfl
 ·rw[h.cellAt _ (by omega),b];rfl
 ·rw[h.cellAt _ (by omega),c];rfl
theorem GU {ts:List Tok} (h:w.ownsRow base e 3 v ts.length (aK ts)):EG w v (ts.map DI):=by
 rcases h.2 with⟨rfl,hn⟩|⟨g,cap,cur,rfl,_⟩
 ·refine .inl ⟨rfl,?_⟩;rw[A3 hn];rfl
 ·exact .inr ⟨g,0,cap,by simp,DV h⟩
theorem GV {ts:List Tok} (h:eQ l=(ts,some (a,e))):e≠0∧a≤33554432∧e≤112:=by
 unfold eQ at h;by_cases hl:33554432<l.length
 ·rw[ar hl]at h;injection h with _ h
  injection h with h
  injection h with h1 h2
  omega
 ·rw[af hl]at h;have:=nO l.length l 0 false false ts a e (aP _) h;omega
def oR (w:World) (v:Value) (xs:List (Int×ByteArray×Int)):Prop:=
 ∃ao c,v= .slice ao xs.length c∧ ∀j (h:j<xs.length),∃g o,ao=some ⟨g,o,none⟩∧g<w.heap.size∧w.cell? ⟨g,o+j*3,none⟩=some (.int .i64 xs[j].1)∧w.cell? ⟨g,o+j*3+1,none⟩=some (.string xs[j].2.1)∧w.cell? ⟨g,o+j*3+2,none⟩=some (.int .i64 xs[j].2.2)
theorem rG.at {xs:List (Int×ByteArray×Int)} (h:rG w g o xs):oR w (.slice (some ⟨g,o,none⟩) xs.length c) xs:=
 ⟨_,c,rfl,fun j hj=>⟨g,o,rfl,h.1,h.2 j hj⟩⟩
theorem EG.at {w:World} {v:Value} {xs:List (Int×ByteArray×Int)} (h:EG w v xs):oR w v xs:=by
 rcases h with⟨rfl,rfl⟩|⟨g,o,c,rfl,h⟩
 ·exact⟨none,0,rfl,fun j hj=>absurd hj (by simp)⟩
 ·exact h.at
theorem oR.below {xs:List (Int×ByteArray×Int)} (h:oR w v xs) (hb:Below w.heap.size w w'):oR w' v xs:=by
 obtain⟨ao,c,rfl,hc⟩:=h;refine⟨ao,c,rfl,fun j hj=>?_⟩;obtain⟨g,o,rfl,hg,h1,h2,h3⟩:=hc j hj;exact⟨g,o,rfl,gO hg hb.size,(hb.cell (p:=⟨g,_,none⟩) hg).trans h1,(hb.cell (p:=⟨g,_,none⟩) hg).trans h2,(hb.cell (p:=⟨g,_,none⟩) hg).trans h3⟩
theorem oR.tok {ts:List Tok} (h:oR w (.slice ao n c) (ts.map DI)):n=ts.length∧ ∀j (h:j<ts.length),∃g o,ao=some ⟨g,o,none⟩∧g<w.heap.size∧w.cell? ⟨g,o+j*3,none⟩=some (.int .i64 (ts[j].kind:Int))∧w.cell? ⟨g,o+j*3+1,none⟩=some (.string ⟨ts[j].text.toArray⟩)∧w.cell? ⟨g,o+j*3+2,none⟩=some (.int .i64 (ts[j].pos:Int)):=by
 obtain⟨ao',c',he,hc⟩:=h;injection he with h1 h2 h3
 subst h1;refine⟨by simpa using h2,fun j hj=>?_⟩;obtain⟨g,o,h1,h2,h3,h4,h5⟩:=hc j (by simpa using hj);have e:(ts.map DI)[j]'(by simpa using hj)=DI ts[j]:=by simp
 rw[e]at h3 h4 h5;exact⟨g,o,h1,h2,h3,h4,h5⟩
theorem gH (h:r<F):F-(intOf (.int .i64 ((r:Int)+1))).toNat<F-(intOf (.int .i64 (r:Int))).toNat:=by
 have h1:(intOf (.int .i64 ((r:Int)+1))).toNat=r+1:=rfl;have h2:(intOf (.int .i64 (r:Int))).toNat=r:=rfl;rw[h1,h2];exact Nat.sub_lt_sub_left h (vw r)
theorem oR.drewN {w:World} {v:Value} {xs:List (Int×ByteArray×Int)} (h:oR w v xs) (n:Nat):oR (w.drewN n) v xs:=h
theorem fo.open {r:List Tok×Option (Nat×Nat)} {e:Ending} (h:fo w r e w'):
  ∃ao c,e= .returned (.tuple #[.slice ao (gL r).length c,.int .i64 (yN r:Int),.int .i64 (rH r:Int)])∧w'.ownsRow w.heap.size 139 3 (.slice ao (gL r).length c) (gL r).length (aK (gL r))∧oR w' (.slice ao (gL r).length c) ((gL r).map DI)∧Below w.heap.size w w':=by
 obtain⟨v,rfl,ho,hb⟩:=h;have hs:=GU ho;rcases ho.2 with⟨rfl,hn⟩|⟨g,cap,cur,rfl,_⟩
 ·rw[A3 hn]at*
  exact⟨none,0,rfl,ho,hs.at,hb⟩
 ·exact⟨_,cap,rfl,ho,hs.at,hb⟩
theorem zf (h:(eQ l).2=some (a,e)):e≠0∧a≤33554432∧e≤112:=
 GV (ts:=(eQ l).1) (by rw[←h])
theorem sM: ∀(m:Nat) (l:List UInt8) (p:Nat) (br sq:Bool),l.length≤m→(cE l p br sq).1.length≤l.length∧ ∀t∈(cE l p br sq).1,t.pos+t.text.length≤p+l.length
 |m,[],p,br,sq,_=>⟨aT _,fun t h=>by cases h⟩
 |0,c::r,p,br,sq,h=>by simp at h
 |m+1,c::r,p,br,sq,hm=>by
  have bC:c::r≠[]:=by simp
  generalize hl:c::r=x at*
  have hlen:=lO bC;cases hb:jv (an x 0)
  ·by_cases hc:(an x 0).toNat=35
   ·have hr:=ka bC;rw[jE bC hc];obtain⟨i1,i2⟩:=sM m (x.drop (cS x)) (p+cS x) br sq (by simp;omega);rw[mY]at i1 i2;exact⟨by omega,fun t ht=>by have:=i2 t ht;omega⟩
   ·cases ht:aX x br sq with
    |bad e'=>rw[sG bC hb hc ht];exact⟨aT _,fun t h=>by cases h⟩
    |tok k n b q=>
     have hn:=jb bC ht;rw[pd bC hb hc ht];obtain⟨i1,i2⟩:=sM m (x.drop n) (p+n) b q (by simp;omega);rw[mY]at i1 i2;refine⟨by simp only[dI];omega,fun t ht=>?_⟩;rcases gq.1 ht with rfl|ht
     ·simp only[nZ];omega
     ·have:=i2 t ht;omega
  ·rw[cK bC hb];obtain⟨i1,i2⟩:=sM m (x.drop 1) (p+1) br sq (by simp;omega);rw[mY]at i1 i2;exact⟨by omega,fun t ht=>by have:=i2 t ht;omega⟩
theorem zg (l:List UInt8):(eQ l).1.length≤l.length∧ ∀t∈(eQ l).1,t.pos+t.text.length≤l.length:=by
 unfold eQ;split
 ·exact⟨aT _,fun t h=>by cases h⟩
 ·have:=sM l.length l 0 false false (aP _);rw[mw]at this;exact this
theorem T8 {x s:ByteArray} (h: ¬x=s):(x.toList==s.toList)=false:=by
 rw[bK];intro e;rw[nW,nW]at e;exact h (by rw[←mk_data x,←mk_data s,e])
theorem kd (hT:pT (fun _=>True) T) (w:World) (s:ByteArray) (hs:s.size≤1048576) (kD:T w.heap.size w):
  Calls prog 101 #[.string s] w (ko w (fw s)):=by
 obtain⟨R,hR⟩: ∃R,R=eQ s.data.toList:=⟨_,rfl⟩;have hk:fw s=LP s.data.toList R:=by rw[hR];rfl
 have HK:=aa hk;have HR:=aa hR;have HE:=aa (show ∀a e,R.2=some (a,e)→e≠0 from fun a e h=>(zf (by rw[←hR];exact h)).1);have HL:Hid (R.1.length≤1048576):=aa (by
  have h1:=(zg s.data.toList).1;rw[←hR,ab]at h1;omega)
 clear hk hR;go_enter func101,ntmps101;go_wp2_with fail;refine(UY hT _ s (by omega) (fun _ _ _=>trivial) kD).mono ?_;intro e w2 hp;obtain⟨ao,ca,rfl,hoa,PJ,aM⟩:=hp.open;rw[←HR.out]at hoa PJ ⊢
 have HB:=aa aM;have Lv:=aa PJ;clear hoa PJ hp aM kD;obtain⟨ts,er⟩:=R;cases er with
 |some f=>
  obtain⟨a,c⟩:=f;have he:=HE a c rfl;have hc:((c:Int)==0)=false:=by rw[bK];omega
  have ng:((c:Int) != 0)=true:=by rw[bne,hc];rfl
  simp only[rH,yN,gL];have H0:Hid (fw s=0):=aa (by rw[HK.out];cases ts with|nil=>rfl|cons t ts=>cases ts<;>rfl);clear HK HE Lv HR HL;go_wp2_with fail;go_ret;exact⟨by rw[H0.out];rfl,HB⟩
 |none=>
  simp only[rH,yN,gL]at Lv ⊢
  obtain⟨ao',c',hv,hc⟩:=Lv.out;cases ts with
  |nil=>
   have H0:Hid (fw s=0):=aa (by rw[HK.out];rfl);clear HK HE Lv HR HL hv hc;go_wp2_with fail;go_ret;exact⟨by rw[H0.out];rfl,HB⟩
  |cons t ts=>
   cases ts with
   |cons t2 ts=>
    have H0:Hid (fw s=0):=aa (by rw[HK.out];rfl);have hl:((((t::t2::ts).length:Nat):Int)==1)=false:=by rw[bK];simp only[dI];omega
    have Ar:((((t::t2::ts).length:Nat):Int) != 1)=true:=by rw[bne,hl];rfl
    clear HK HE Lv HR HL hv hc;generalize (t::t2::ts).length=n at hl Ar ⊢
    go_wp2_with fail;go_ret;exact⟨by rw[H0.out];rfl,HB⟩
   |nil=>
    obtain⟨g,o,Sj,hg,h0,h1,h2⟩:=hc 0 (by simp);injection hv with SS Ht hv3
    subst SS Sj;simp only[mv,oI,IF,DI,yG,iv,dI,oB,mw]at h0 h1 h2 ⊢
    clear Ht hv3 hc Lv HR HE HL h2;by_cases he:t.text=s.data.toList
    ·have H0:Hid (fw s=t.kind):=aa (by rw[HK.out];simp[LP,he]);rw[he,mk_data]at h1;clear HK he;go_wp2_with fail;go_ret;exact⟨by rw[H0.out];rfl,HB⟩
    ·have H0:Hid (fw s=0):=aa (by rw[HK.out];simp[LP,he]);have bC: ¬(⟨t.text.toArray⟩:ByteArray)=s:=fun h=>he (by rw[←h])
     obtain⟨x,hx⟩: ∃x:ByteArray,x=⟨t.text.toArray⟩:=⟨_,rfl⟩;rw[←hx]at h1 bC;have Ya:(x.toList==s.toList)=false:=T8 bC;clear HK he hx bC;go_wp2_with fail;go_ret;exact⟨by rw[H0.out];rfl,HB⟩
theorem gD (hT:pT (fun _=>True) T) (w:World) (s:ByteArray) (hs:s.size≤1048576) (kD:T w.heap.size w):
  Calls prog 85 #[.string s] w (aC w (fx s)):=by
 have HC:=aa (kd hT w s hs kD);have HD:Hid (fx s=(((fw s:Nat):Int)==4)):=aa (by unfold fx;rw[eE];simp;omega);clear kD;go_enter func85,ntmps85;go_wp2_with fail;refine HC.mono ?_;rintro e w2 ⟨rfl,hb⟩;have HB:=aa hb;clear hb;go_wp2_with fail;go_ret;exact⟨by rw[HD.out];rfl,HB⟩
theorem Ki (hT:pT (fun _=>True) T) (w:World) (s:ByteArray) (hs:s.size≤1048576) (kD:T w.heap.size w):
  Calls prog 78 #[.string s] w (aC w (ix s)):=by
 have HC:=aa (kd hT w s hs kD);have HD:Hid (ix s=(((fw s:Nat):Int)==3||((fw s:Nat):Int)==4)):=aa (by unfold ix;rw[eE];simp;omega);clear kD;generalize fw s=k at HC HD;go_enter func78,ntmps78;go_wp2_with fail;refine HC.mono ?_;rintro e w2 ⟨rfl,hb⟩;have HB:=aa hb;clear hb HC;by_cases h3:k=3
 ·subst h3;go_wp2_with fail;go_ret;exact⟨by rw[HD.out];rfl,HB⟩
 ·have h3':((k:Int)==3)=false:=by rw[bK];omega
  clear h3;go_wp2_with fail;go_ret;exact⟨by rw[HD.out,h3'];rfl,HB⟩
def qg (l:List UInt8) (k:Nat):Nat:=k+cS (l.drop k)
theorem MN (h:l.length≤k):qg l k=k:=by
 rw[qg,s9 h];rfl
theorem zh (h:k<l.length) (hc:(an l k).toNat≠10):qg l (k+1)=qg l k:=by
 have hn:eI (an l k)=true:=by simp[eI,hc]
 have h1:ae eI (l.drop k) 0=ae eI (l.drop (k+1)) 0+1:=by
  rw[drop_at h];simp[ae,rf,hn]
 unfold qg cS;rw[h1,mY,mY];omega
theorem QJ (h:k<l.length) (hc:(an l k).toNat=10):qg l k=k+1:=by
 have hn:eI (an l k)=false:=by simp[eI,hc]
 have h1:ae eI (l.drop k) 0=0:=by
  rw[drop_at h];simp[ae,rf,hn]
 unfold qg cS;rw[h1,mY];omega
def gI (l:List UInt8) (br sq:Bool) (rm:Bool) (k:Nat):List Tok×Option (Nat×Nat):=if rm=true then cE (l.drop (qg l k)) (qg l k) br sq else cE (l.drop k) k br sq
theorem QK (h:k<l.length) (hc:(an l k).toNat=10):gI l br sq false (k+1)=gI l br sq rm k:=by
 have bC:l.drop k≠[]:=by intro e;have:=bT List.length e;simp at this;omega
 cases rm
 ·simp only[gI,lh,iE];rw[cK bC (by rw[gy,iv];simp[jv,hc]),yF]
 ·simp only[gI,lh,iE,kJ,QJ h hc]
theorem Fc (h:k<l.length) (hc:(an l k).toNat≠10):gI l br sq true (k+1)=gI l br sq true k:=by
 simp only[gI,kJ,zh h hc]
theorem Kj (h:k<l.length) (hc:(an l k).toNat=35):gI l br sq true (k+1)=gI l br sq rm k:=by
 have bC:l.drop k≠[]:=by intro e;have:=bT List.length e;simp at this;omega
 cases rm
 ·simp only[gI,lh,iE,kJ];rw[jE bC (by rw[gy,iv];exact hc),yF,zh h (by omega)];rfl
 ·exact Fc h (by omega)
theorem QL (h:k<l.length) (hc:jv (an l k)=true):gI l br sq false (k+1)=gI l br sq false k:=by
 have bC:l.drop k≠[]:=by intro e;have:=bT List.length e;simp at this;omega
 simp only[gI,lh,iE];rw[cK bC (by rw[gy,iv];exact hc),yF]
theorem MO (h:l.length≤k):gI l br sq rm k=cE (l.drop k) k br sq:=by
 cases rm
 ·rfl
 ·simp only[gI,kJ,MN h]
theorem qj {s:ByteArray} (h:LZ w p s at' br sq v er):nA w p=at':=by
 unfold nA;have:w.cell? ⟨p,1,none⟩=some (.int .i64 (at':Int)):=by rw[h.cell];rfl
 rw[this];simp
structure eJ (base:Nat) (w0:World) (p:Nat) (s:ByteArray) (at':Nat) (br sq:Bool) (v:Value) (ts:List Tok) (w:World):Prop where
 z:LZ w p s at' br sq v 0
 own:w.ownsRow base 139 3 v ts.length (aK ts)
 below:Below base w0 w
 bp:base≤p
theorem eJ.drewN {base:Nat} {w0:World} {p:Nat} {s:ByteArray} {at':Nat} {br sq:Bool} {v:Value} {ts:List Tok} {w:World} (h:eJ base w0 p s at' br sq v ts w) (n:Nat):eJ base w0 p s at' br sq v ts (w.drewN n):=
 ⟨aH.drewN h.z n,h.own,bS h.below n,h.bp⟩
theorem eJ.goto {s:ByteArray} {ts:List Tok} (h:eJ base w0 p s at' br sq v ts w) {m:Nat} {y:Int} (hy:y=(m:Int)):eJ base w0 p s m br sq v ts (w.setCell ⟨p,1,none⟩ (.int .i64 y)):=by
 subst hy;refine⟨?_,aF h.own h.z (by decide) _,h.below.setCell (p:=⟨p,1,none⟩) h.bp _,h.bp⟩;have:=aH.dw h.z 1 (.int .i64 (m:Int));simpa [LZ]using this
theorem QM (w : World) (base p : Nat) (s : ByteArray) (at' : Nat) (br sq : Bool) (v : Value) (ts : List Tok) (w0 : World) (hs : s.size ≤ 281474976710656) (cB : at' ≤ s.size) (h : eJ base w0 p s at' br sq v ts w) :
    Calls prog 92 #[.pointer (some ⟨p, 0, none⟩)] w fun e w' => e = .returned (.tuple #[]) ∧
      ∃k,at'≤k∧k≤s.size∧eJ base w0 p s k br sq v ts w'∧cE (s.data.toList.drop k) k br sq=cE (s.data.toList.drop at') at' br sq∧(∀hk:k<s.size,jv s[k]=false∧s[k].toNat≠35):=by
  obtain⟨R,hR⟩: ∃R,R=cE (s.data.toList.drop at') at' br sq:=⟨_,rfl⟩
  have h0:gI s.data.toList br sq false at'=R:=by rw[hR];rfl
  rw[←hR]
  have H:=aa h
  have H0:=aa h0
  clear h h0 hR
  go_enter func92,ntmps92
  go_wp2_with fail
  go_loopw [2] (fun t wr=> ∃(rm:Bool) (k:Nat),at'≤k∧k≤s.size∧t= .bool rm∧Hid (eJ base w0 p s k br sq v ts wr)∧Hid (gI s.data.toList br sq rm k=R)) (fun _ wr=>s.size-nA wr p)
  case atStart=>exact⟨false,at',aP _,cB,rfl,H,H0⟩
  case round =>
    obtain⟨rm,k,lC,hk,rfl,cA,hR⟩:=hrel
    clear H H0
    have c0:wr.cell? ⟨p,0,none⟩=some (.string s):=by rw[cA.out.z.cell];rfl
    have c1:wr.cell? ⟨p,1,none⟩=some (.int .i64 (k:Int)):=by rw[cA.out.z.cell];rfl
    have hmu:nA wr p=k:=qj cA.out.z
    have HMU:=aa hmu
    clear hmu
    by_cases au:k<s.size
    · go_wp2_with fail
      go_quiet (fail)
      have nt:=aa (cA.out.drewN nq)
      have a0:(wr.drewN nq).cell? ⟨p,0,none⟩=some (.string s):=by rw[nt.out.z.cell];rfl
      have a1:(wr.drewN nq).cell? ⟨p,1,none⟩=some (.int .i64 (k:Int)):=by rw[nt.out.z.cell];rfl
      clear c0 c1
      generalize wr.drewN nq=w2 at nt a0 a1 ⊢
      go_wp2_with fail
      go_quiet (fail)
      have Dw:=aa (nt.out.drewN nq)
      have b0:(w2.drewN nq).cell? ⟨p,0,none⟩=some (.string s):=by rw[Dw.out.z.cell];rfl
      have b1:(w2.drewN nq).cell? ⟨p,1,none⟩=some (.int .i64 (k:Int)):=by rw[Dw.out.z.cell];rfl
      have f1:(w2.drewN nq).frozen? ⟨p,1,none⟩=false:=Dw.out.z.frozen 1
      clear a0 a1 nt cA
      generalize w2.drewN nq=w3 at Dw b0 b1 f1 ⊢
      have Xx:k<s.data.toList.length:=by rw[ab];exact au
      have pP:=aq au
      have WJ:=aa Xx
      have Ih:=aa pP
      clear Xx pP
      cases Lu:((s[k].toNat:Int)==10)
      · have Dn : (an s.data.toList k).toNat ≠ 10 := by rw [Ih.out]; have := kA Lu; omega
        cases e35:((s[k].toNat:Int)==35)
        · cases rm
          · have WK : Hid (jv s[k] = true → gI s.data.toList br sq false (k + 1) = R) := aa (fun hb => (QL (br := br) (sq := sq) WJ.out (by rw [Ih.out]; exact hb)).trans hR.out)
            have HE:=aa (show cE (s.data.toList.drop k) k br sq=R from hR.out)
            clear hR Dn
            have n10:=kA Lu
            have n35:=kA e35
            have hm:nA (w3.setCell ⟨p,1,none⟩ (.int .i64 ((k:Int)+1))) p=k+1:=qj (Dw.out.goto (m:=k+1) (by omega)).z
            have HM:=aa hm
            clear hm
            go_wp2_with fail
            all_goals try simp only[ju,ne_eq,IJ]at*
            all_goals first
              | (have hb : jv s[k] = true := by simp [jv]; omega
                 exact⟨⟨false,k+1,by omega,by omega,rfl,aa (Dw.out.goto (m:=k+1) (by omega)),aa (WK.out hb)⟩,by rw[HM.out,HMU.out];omega⟩)
              | (have hb : jv s[k] = false ∧ s[k].toNat ≠ 35 := by simp [jv]; omega
                 refine cz (pL rfl _ _ _) rfl ?_
                 exact⟨rfl,k,lC,hk,Dw.out,HE.out,fun _=>hb⟩)
          · have HE := aa ((Fc (br := br) (sq := sq) WJ.out Dn).trans hR.out)
            clear hR Dn
            go_wp2_with fail
            have hm:nA (w3.setCell ⟨p,1,none⟩ (.int .i64 ((k:Int)+1))) p=k+1:=qj (Dw.out.goto (m:=k+1) (by omega)).z
            go_roundw
            case rel=>exact⟨_,k+1,by omega,by omega,rfl,aa (Dw.out.goto (m:=k+1) (by omega)),HE⟩
            case measure=>rw[hm,HMU.out];omega
        · have HE := aa ((Kj (br := br) (sq := sq) (rm := rm) WJ.out (by rw [Ih.out]; have := js e35; omega)).trans hR.out)
          clear hR Dn
          go_wp2_with fail
          have hm:nA (w3.setCell ⟨p,1,none⟩ (.int .i64 ((k:Int)+1))) p=k+1:=qj (Dw.out.goto (m:=k+1) (by omega)).z
          go_roundw
          case rel=>exact⟨_,k+1,by omega,by omega,rfl,aa (Dw.out.goto (m:=k+1) (by omega)),HE⟩
          case measure=>rw[hm,HMU.out];omega
      · have HE := aa ((QK (br := br) (sq := sq) (rm := rm) WJ.out (by rw [Ih.out]; have := js Lu; omega)).trans hR.out)
        clear hR
        go_wp2_with fail
        have hm:nA (w3.setCell ⟨p,1,none⟩ (.int .i64 ((k:Int)+1))) p=k+1:=qj (Dw.out.goto (m:=k+1) (by omega)).z
        go_roundw
        case rel=>exact⟨_,k+1,by omega,by omega,rfl,aa (Dw.out.goto (m:=k+1) (by omega)),HE⟩
        case measure=>rw[hm,HMU.out];omega
    · have tX : k = s.size := by omega
      have HE:=aa ((MO (br:=br) (sq:=sq) (rm:=rm) (l:=s.data.toList) (k:=k) (by rw[ab];omega)).symm.trans hR.out)
      clear hR
      go_wp2_with fail
      go_quiet (fail)
      have nt:=aa (cA.out.drewN nq)
      clear c0 c1 cA
      generalize wr.drewN nq=w2 at nt ⊢
      go_wp2_with fail
      go_end0
      exact⟨rfl,k,lC,hk,nt.out,HE.out,fun h=>absurd h (by omega)⟩
def eR (base:Nat) (w0:World) (p:Nat) (s:ByteArray) (at':Nat) (ts:List Tok) (r:AU) (e:Ending) (w':World):Prop:=
 e= .returned (.tuple #[])∧match r with
  | .tok k n b q=> ∃v',eJ base w0 p s (at'+n) b q v' (ts++[⟨k,(s.data.toList.drop at').take n,at'⟩]) w'
  | .bad er=> ∃br sq v',LZ w' p s at' br sq v' er∧Below base w0 w'
theorem vS (s:ByteArray) (x:Int) (i:Nat) (hx:x=(i:Int)) (c:UInt8) (hc:an s.data.toList i=c) (w:World) (hs:s.size≤maxLen):
  Calls prog 96 #[.string s,.int .i64 x] w fun e w'=>e= .returned (.int .u8 (c.toNat:Int))∧w=w':=by
 subst hx hc;exact abX s i w hs
theorem dU (c:UInt8) (b:Bool) (hb:letter c=b) (w:World):
  Calls prog 93 #[.int .u8 (c.toNat:Int)] w fun e w'=>e= .returned (.bool b)∧w=w':=by
 subst hb;exact uz c w
theorem fB (c:UInt8) (b:Bool) (hb:digit c=b) (w:World):
  Calls prog 95 #[.int .u8 (c.toNat:Int)] w fun e w'=>e= .returned (.bool b)∧w=w':=by
 subst hb;exact xJ c w
theorem bP (w:World) (base p:Nat) (s:ByteArray) (at' k n:Nat) (x y:Int) (hx:x=(k:Int)) (hy:y=(n:Int)) (br sq:Bool) (v:Value) (ts:List Tok) (w0:World) (hs:s.size≤281474976710656) (hn:at'+n≤s.size) (hk:k≤6)
  (h:eJ base w0 p s at' br sq v ts w) (hlen:ts.length≤1099511627776):
  Calls prog 109 #[.pointer (some ⟨p,0,none⟩),.int .i64 x,.int .i64 y] w (eR base w0 p s at' ts (.tok k n br sq)):=by
 refine(UR w base p s at' k n x y hx hy br sq v ts hs hn hk h.z h.own hlen h.bp).mono ?_;rintro e w' ⟨rfl,v',hz,ho,hb⟩;exact⟨rfl,v',hz,ho,h.below.trans hb,h.bp⟩
theorem GW (p:UInt8→Bool) (l:List UInt8) (i:Nat):ae p (l.drop i) 0=ae p l i-i:=by
 unfold ae;rw[Bc];omega
theorem U1 (F5:col=(!br&& !sq)) (h:letter (an l 0)=true∨((an l 0).toNat=58∧col=true)):
  aX l br sq= .tok (bR br (l.take (ae (bg col) l 0))) (ae (bg col) l 0) br sq:=by
 subst F5;cases hl:letter (an l 0)
 ·have Sk:(an l 0).toNat=58∧(!br&& !sq)=true:=by rcases h with h|h<;>first|exact h|(rw[hl]at h;cases h)
  rw[aX,hl,af (by simp),ar Sk,Sk.2];have bC:l≠[]:=by rintro rfl;exact absurd Sk.1 (by decide)
  have yJ:l=an l 0::l.drop 1:=UQ bC;have hn:bg true (an l 0)=true:=by simp[bg,Sk.1]
  have e1:ae (bg true) l 0=ae (bg true) l 1:=by
   conv=>lhs;rw[yJ]
   conv=>rhs;rw[yJ]
   simp[ae,rf,hn];omega
  rw[e1];have pN:1≤ae (bg true) l 1:=aV _ l 1;have hc:(l.take (ae (bg true) l 1)).contains 58=true:=by
   obtain⟨m,hm⟩: ∃m,ae (bg true) l 1=m+1:=⟨ae (bg true) l 1-1,by omega⟩;rw[hm]
   conv=>lhs;rw[yJ]
   have:an l 0=58:=(yH (n:=58) (by omega)).2 Sk.1;rw[List.take_succ_cons,this];simp
  rw[bR,ar hc]
 ·rw[aX,hl,ar rfl]
theorem GX {t:List UInt8} (h:t.contains 58=false) (h3:t.length≠3):bR br t=1:=by
 have hi:rF t=false:=by
  rw[Bool.eq_false_iff];intro hi;simp only[rF,tD,cn]at hi;rcases hi with hi|hi<;>(have:=bT List.length hi;simp at this;omega)
 rw[bR,h,af (by simp),hi,tF,af (by simp)]
theorem DW {t:List UInt8} (h:t.contains 58=false) (h3:t.length=3):bR br t=if (!br&&((t.map low==[105,110,102])||(t.map low==[110,97,110])))=true then 3 else 1:=by
 have hi:rF t=((t.map low==[105,110,102])||(t.map low==[110,97,110])):=by
  rw[rF,DC (by omega)]
 rw[bR,h,af (by simp),hi]
def Gh (w:World) (v:Value) (l:List UInt8):Prop:=
 ∃ao c,v= .slice ao l.length c∧ ∀j (h:j<l.length),∃g o,ao=some ⟨g,o,none⟩∧g<w.heap.size∧w.cell? ⟨g,o+j,none⟩=some (.int .u8 (l[j].toNat:Int))
def TH (w:World) (v:Value) (gs:List (List UInt8)):Prop:=
 ∃ao c,v= .slice ao gs.length c∧ ∀j (h:j<gs.length),∃g o u,ao=some ⟨g,o,none⟩∧g<w.heap.size∧w.cell? ⟨g,o+j,none⟩=some u∧Gh w u gs[j]
theorem Gh.below (h:Gh w v l) (hb:Below w.heap.size w w'):Gh w' v l:=by
 obtain⟨ao,c,rfl,hc⟩:=h;refine⟨ao,c,rfl,fun j hj=>?_⟩;obtain⟨g,o,rfl,hg,h1⟩:=hc j hj;exact⟨g,o,rfl,gO hg hb.size,(hb.cell (p:=⟨g,_,none⟩) hg).trans h1⟩
theorem TH.below {w w':World} {v:Value} {gs:List (List UInt8)} (h:TH w v gs) (hb:Below w.heap.size w w'):TH w' v gs:=by
 obtain⟨ao,c,rfl,hc⟩:=h;refine⟨ao,c,rfl,fun j hj=>?_⟩;obtain⟨g,o,u,rfl,hg,h1,h2⟩:=hc j hj;exact⟨g,o,u,rfl,gO hg hb.size,(hb.cell (p:=⟨g,_,none⟩) hg).trans h1,h2.below hb⟩
def L7 (w:World) (v:Value) (xs:List (Int×ByteArray×Int)):Prop:=
 (∃ao c,v= .slice ao 0 c∧xs=[])∨ ∃g o c,v= .slice (some ⟨g,o,none⟩) xs.length c∧rG w g o xs
theorem L7.below {w w':World} {v:Value} {xs:List (Int×ByteArray×Int)} (h:L7 w v xs) (hb:Below w.heap.size w w'):L7 w' v xs:=by
 rcases h with h|⟨g,o,c,h1,h2⟩
 ·exact .inl h
 ·exact .inr ⟨g,o,c,h1,h2.below hb⟩
abbrev Row:=Int×ByteArray×Int
def Row.cells (x:Row):List Value:=[.int .i64 x.1,.string x.2.1,.int .i64 x.2.2]
def QN (xs:List Row):List Value:=xs.flatMap Row.cells
theorem BQ {e:TypeId} (h:w.ownsRow base e size (.slice ao n c) m xs) (hm:0<m): ∃g,ao=some ⟨g,0,none⟩∧base≤g∧g<w.heap.size:=by
 rcases h.2 with⟨hv,h0⟩|⟨g,cap,cur,hv,hb,hg,_⟩
 ·omega
 ·injection hv with h1 h2 h3
  subst h1;exact⟨g,rfl,hb,(h.lt g rfl).2⟩
inductive dK (b:Nat) (w:World):Nat→Value→List (Nat×PR)→Prop
 |mk (d:Nat) (v:Value) (r:PR) (ks:List Value) (cH:Nat→List (Nat×PR)):aY b w v r ks→(∀i (h:i<ks.length),dK b w (d+1) ks[i] (cH i))→dK b w d v ((d,r)::(List.range ks.length).flatMap cH)
theorem dK.later (hb:Below w.heap.size w w') {d:Nat} {v:Value} {L:List (Nat×PR)} (h:dK b w d v L):dK b w' d v L:=by
 induction h with
 |mk d v r ks cH h0 _ ih=>exact .mk d v r ks cH (h0.below hb) fun i hi=>ih i hi
theorem aY.kids {b:Nat} {w:World} {v:Value} {r:PR} {ks:List Value} (h:aY b w v r ks):r.kids=(ks.length:Int):=by cases h<;>rfl
theorem aY.nk {b:Nat} {w:World} {v:Value} {r:PR} {ks:List Value} (h:aY b w v r ks):nk r=ks.length:=by
 unfold Go.Proofs.YtcdoilkjmjbgmaaGreatDoor.nk;rw[h.kids];rfl
theorem aY.lo {b b':Nat} {w:World} {v:Value} {r:PR} {ks:List Value} (h:aY b w v r ks) (hb:b'≤b):aY b' w v r ks:=by
 cases h with
 |number g Ds hg t c0=>exact .number g (bn hb Ds) hg t c0
 |text g Ds hg t c0=>exact .text g (bn hb Ds) hg t c0
 |selector g Ds hg t off tim vm ms hm c0 c1 c2 c3=>exact .selector g (bn hb Ds) hg t off tim vm ms (hm.lo hb) c0 c1 c2 c3
 |range g Ds hg d p c0 c1=>exact .range g (bn hb Ds) hg d p c0 c1
 |subquery g Ds hg d s off tim t x c0 c1 c2 c3 c4=>exact .subquery g (bn hb Ds) hg d s off tim t x c0 c1 c2 c3 c4
 |unary g Ds hg o t x c0 c1=>exact .unary g (bn hb Ds) hg o t x c0 c1
 |binary g Ds hg o t u x y bo gi on vl vi ls inc card hl hi c0 c1 c2 c3 c4 c5 c6 c7 c8=>exact .binary g (bn hb Ds) hg o t u x y bo gi on vl vi ls inc card (hl.lo hb) (hi.lo hb) c0 c1 c2 c3 c4 c5 c6 c7 c8
 |call g Ds hg o va ks hk c0 c1=>exact .call g (bn hb Ds) hg o va ks (by obtain⟨ao,c,h1,h2⟩:=hk;exact⟨ao,c,h1,fun j hj=>by obtain⟨g,o,a,l,u⟩:=h2 j hj;exact⟨g,o,a,bn hb l,u⟩⟩) c0 c1
 |aggr g Ds hg o t x wo vl ls hl c0 c1 c2 c3 c4=>exact .aggr g (bn hb Ds) hg o t x wo vl ls (hl.lo hb) c0 c1 c2 c3 c4
 |aggr2 g Ds hg o t u x y wo vl ls hl c0 c1 c2 c3 c4=>exact .aggr2 g (bn hb Ds) hg o t u x y wo vl ls (hl.lo hb) c0 c1 c2 c3 c4
theorem dK.lo {b b':Nat} {w:World} (hb:b'≤b) {d:Nat} {v:Value} {L:List (Nat×PR)} (h:dK b w d v L):dK b' w d v L:=by
 induction h with
 |mk d v r ks cH h0 _ ih=>exact .mk d v r ks cH (h0.lo hb) fun i hi=>ih i hi
theorem Cu {d:Nat} {cH:Nat→List (Nat×PR)}: ∀n:Nat,(∀i,i<n→trees 1 ((cH i).map (·.2))=true∧aR [d] ((cH i).map (·.2))=(cH i).map (·.1))→
  trees n (((List.range n).flatMap cH).map (·.2))=true∧aR (List.replicate n d) (((List.range n).flatMap cH).map (·.2))=((List.range n).flatMap cH).map (·.1)
 |0,_=>⟨rfl,rfl⟩
 |n+1,h=>by
  obtain⟨h1,h2⟩:=Cu n fun i hi=>h i (by omega)
  obtain⟨h3,h4⟩:=h n (by omega);rw[rp,yv,xk,List.flatMap_nil,mu,mZ,mZ];refine⟨Cr _ _ n 1 h1 h3,?_⟩;rw[List.replicate_succ',wT _ _ _ _ (by rw[uh];exact h1),h2,h4]
theorem dK.plain (h:dK b w d v L):trees 1 (L.map (·.2))=true∧aR [d] (L.map (·.2))=L.map (·.1):=by
 induction h with
 |mk d v r ks cH h0 _ ih=>
  obtain⟨h1,h2⟩:=Cu ks.length fun i hi=>ih i hi
  rw[mv,mv];refine⟨?_,?_⟩
  ·show trees (nk r+0) _=true;rw[h0.nk];exact h1
  ·rw[aR,h0.nk,mu,h2]
def nC (d:Nat) (rs:List PR):List (Nat×PR):=(aR [d] rs).zip rs
theorem zip_map (L:List (Nat×PR)):(L.map (·.1)).zip (L.map (·.2))=L:=by
 induction L with
 |nil=>rfl
 |cons x L ih=>rw[mv,mv,List.zip_cons_cons,ih]
theorem dK.nC {b:Nat} {w:World} {d:Nat} {v:Value} {L:List (Nat×PR)} (h:dK b w d v L):L=nC d (L.map (·.2)):=by
 unfold Go.Proofs.YtcdoilkjmjbgmaaGreatDoor.nC;rw[h.plain.2,zip_map]
theorem Cv (h:trees 1 rs=true):(nC d rs).map (·.2)=rs:=by
 unfold nC;rw[List.map_snd_zip];have:=lS rs [d] h;omega
theorem wU (h:trees 1 rs=true):(nC d rs).map (·.1)=aR [d] rs:=by
 unfold nC;rw[List.map_fst_zip];have:=lS rs [d] h;omega
def gY (b:Nat) (w:World) (v:Value) (L:List (Nat×PR)):Prop:=(v= .nilIface∧L=[])∨dK b w 1 v L
theorem gY.below (hb:Below w.heap.size w w') {v:Value} {L:List (Nat×PR)} (h:gY b w v L):gY b w' v L:=h.elim .inl fun h=>.inr (h.later hb)
theorem aY.iface {b:Nat} {w:World} {v:Value} {r:PR} {ks:List Value} (h:aY b w v r ks): ∃t g,v= .iface t (.pointer (some ⟨g,0,none⟩)):=by cases h<;>exact⟨_,_,rfl⟩
theorem dK.iface {b:Nat} {w:World} {d:Nat} {v:Value} {L:List (Nat×PR)} (h:dK b w d v L): ∃t g,v= .iface t (.pointer (some ⟨g,0,none⟩)):=by
 cases h with
 |mk d v r ks cH h0 _=>exact h0.iface
