import Derived.Test.YtcdoilkjmjbgmaaGreatDoorR07
import Derived.WalkMore
import Derived.ScopeJumps
import Derived.OwnWalk
import Derived.Laws.OwnMore
import Derived.Deep.CutBlock
import Derived.Test.YtcdoilkjmjbgmaaGreatDoorR08
/- Part of the proof of YtcdoilkjmjbgmaaGreatDoorCardR: PlJ PlK LexH TrA TrB TrI TrYa App LexJ LawA LawB LawC LawD TrK RdB RdC LawE LawW LawH TrJ. -/
set_option maxRecDepth 100000
set_option maxHeartbeats 4000000
set_option linter.unusedVariables false
set_option linter.unusedSimpArgs false
namespace Go.Proofs.YtcdoilkjmjbgmaaGreatDoor
open Go.RowKit
open Tryz
variable {x y l g:List UInt8} {n k e p at':Nat} {br sq b q:Bool} {c:UInt8} {P:Program} {a a':Act} {w w':World} {Q:Exit→Act→World→Prop} {s:ByteArray} {v:Value} {T:Nat→World→Prop}
theorem sY {q : UInt8} {y : List UInt8} : ∀ {x : List UInt8} {n : Nat}, eK q (x ++ y) = some n → n ≤ x.length → eK q x = some n
  | [], n, h, hn => by have := mK _ _ _ h; simp at hn; omega
  | [c], n, h, hn => by
    have h1:=(mK _ _ _ h).1
    simp only[List.length_singleton]at hn
    cases y with
    | nil => simpa using h
    | cons d r =>
      simp only[List.singleton_append,eK]at h
      by_cases hc:c=q
      · subst hc; rw [OU, show n = 1 by omega]
      · exfalso
        rw[af hc]at h
        have two : ∀ {o : Option Nat} {a : Nat}, 1 ≤ a → (∀ m, o = some m → 1 ≤ m) → o.map (· + a) = some n → False := by
          intro o a ha ho h
          obtain⟨m,hm,rfl⟩:=xC.1 h
          have:=ho m hm
          omega
        repeat' split at h
        all_goals first
          | (cases h; done)
          | exact two (by omega) (fun m hm => (mK _ _ _ hm).1) h
  | c :: d :: r, n, h, hn => by
    simp only[dZ]at hn
    simp only[py,eK]at h ⊢
    split
    · rename_i hc; rw [au hc] at h; exact h
    · rename_i hc
      rw[af hc]at h
      split
      · rename_i h1
        rw[au h1]at h
        obtain⟨m,hm,rfl⟩:=xC.1 h
        rw[sY (x:=d::r) (y:=y) hm (by simp;omega)];rfl
      · rename_i h1
        rw[af h1]at h
        split
        · rename_i h2; rw [au h2] at h; cases h
        · rename_i h2
          rw[af h2]at h
          split
          · rename_i h3
            rw[au h3]at h
            split
            · rename_i h4; rw [au h4] at h; cases h
            · rename_i h4
              rw[af h4]at h
              obtain⟨m,hm,rfl⟩:=xC.1 h
              rw[sY (x:=r) (y:=y) hm (by omega)];rfl
          · rename_i h3
            rw[af h3]at h
            obtain⟨m,hm,rfl⟩:=xC.1 h
            rw[sY (x:=d::r) (y:=y) hm (by simp;omega)];rfl
theorem MX (hx:x≠[]) (h:bH (x++y) 0=some n) (hn:n≤x.length):bH x 0=some n:=by
 have hl:=lX hx;unfold bH at h ⊢
 rw[df hl]at h;split at h
 ·rename_i h1;rw[au ⟨by omega,h1.2⟩];obtain⟨m,hm,rfl⟩:=xC.1 h;rw[IT (by omega)]at hm;rw[sY hm (by simp;omega)];rfl
 ·cases h
theorem D3 (h1:(aq l 0).toNat=46) (h2:1<l.length) (h3:digit (aq l 1)=true):2≤ag l:=by
 have hh:aR l=false:=by simp[aR,h1]
 have h0:ae digit l 0=0:=dx (by omega) (by simp[digit,h1]);have h4:aJ l=ae digit l 1:=by rw[aJ,h0,af (by omega),au ⟨rfl,h2,h1,h3⟩]
 have h5:2≤ae digit l 1:=by
  have:=iC (p:=digit) (l:=l) (i:=1) h2 (by
   rw[aq,lA,eG h2]at h3;exact h3)
  rw[←this];exact aX digit _ 2
 rw[ag,hh,h4,af (by simp),af (by omega)];have:=mj l (ae digit l 1) (bL digit l 1 (by omega));omega
theorem Fc (l:List UInt8):ag l≤cH l∧aY l≤cH l:=by
 unfold cH;split<;>omega
theorem Kz (h:bI (x++y) br sq= .tok k n b q) (hn:n≤x.length):bI x br sq= .tok k n b q:=by
 have Xl:n=cH (x++y):=by
  unfold bI at h
  repeat' split at h
  all_goals first
   |(cases h;done)
   |(injection h with _ h2;exact h2.symm)
 have mg:=Fc (x++y);have e1:=D2 (x:=x) (y:=y) (by omega);have e2:=Dl (x:=x) (y:=y) (by omega);have e3:cH x=cH (x++y):=by unfold cH;rw[e1,e2]
 have e4:kG x=kG (x++y):=by unfold kG;rw[e1,e2]
 have ht:x.take (cH (x++y))=(x++y).take (cH (x++y)):=(Bd (by omega)).symm;have e5:iX x=iX (x++y):=by unfold iX;rw[e1,e2,e3,ht]
 have e6:cx (x++y)=false→cx x=false:=by
  unfold cx;rw[e3];by_cases ax:cH (x++y)<x.length
  ·rw[df ax,dR ax,dR (by simp;omega)];exact id
  ·rw[gA ax];intro _;rfl
 unfold bI at h ⊢
 rw[e3,e4,e5];cases hf:cx (x++y)
 ·rw[hf]at h;rw[e6 hf];exact h
 ·rw[hf]at h;cases h
theorem Yr (h:1<x.length):Ie (x++y)=Ie x:=by
 unfold Ie;rw[Bd (by omega),dR h,dR (by simp;omega)]
theorem Ys (hx:x≠[]) (h:sJ (x++y) br sq= .tok k n b q) (hn:n≤x.length):sJ x br sq= .tok k n b q:=by
 have hl:=lX hx;by_cases h1:1<x.length
 ·unfold sJ at h ⊢
  rw[Yr h1,df hl]at h;exact h
 ·have h2:Ie x=false:=by simp[Ie];omega
  cases h3:Ie (x++y)
  ·unfold sJ at h ⊢
   rw[h3,df hl]at h;rw[h2];exact h
  ·rw[sJ,h3,au rfl]at h;injection h with _ h4
   omega
theorem MY (hx:x≠[]) (h:bg (x++y) br sq= .tok k n b q) (hn:n≤x.length):bg x br sq= .tok k n b q:=by
 have hl:=lX hx;unfold bg at h ⊢
 rw[df hl]at h;split at h
 ·rename_i h1;rw[au h1];injection h with a1 a2 a3 a4
  rw[a2]at a1;rw[eE (y:=y) (dQ _) (by omega),a2,←a1,Bd hn,a3,a4]
 ·rename_i h1;rw[af h1];split at h
  ·rename_i h2;rw[au h2];injection h with a1 a2 a3 a4
   rw[eE (y:=y) (by omega) (by omega),a1,a2,a3,a4]
  ·rename_i h2;rw[af h2];split at h
   ·rename_i h3;have Xl:ag (x++y)≤n:=by
     have mg:=Fc (x++y);have:n=cH (x++y):=by
      unfold bI at h
      repeat' split at h
      all_goals first
       |(cases h;done)
       |(injection h with _ h2;exact h2.symm)
     omega
    rw[au]
    ·exact Kz h hn
    ·rcases h3 with h3|⟨h3,h4,h5⟩
     ·exact .inl h3
     ·have h6:=D3 (by rw[df hl];exact h3) h4 h5;exact .inr ⟨h3,by omega,by rw[df (by omega)]at h5;exact h5⟩
   ·rename_i h3;rw[af]
    ·split at h
     ·rename_i h4;rw[au h4];unfold tA at h ⊢
      split at h
      ·cases h
      ·rename_i m hm;split at h
       ·rename_i h5;injection h with a1 a2 a3 a4
        subst a2;rw[MX hx hm hn];simp only;rw[Bd hn]at h5;rw[au h5,a1,a3,a4]
       ·cases h
     ·rename_i h4;rw[af h4];exact Ys hx h hn
    ·rintro(h4|⟨h4,h5,h6⟩)
     ·exact h3 (.inl h4)
     ·exact h3 (.inr ⟨h4,by simp;omega,by rw[df h5];exact h6⟩)
def Tok.move (d:Nat) (t:Tok):Tok:=⟨t.kind,t.text,t.pos+d⟩
theorem uR (d:Nat): ∀(m:Nat) (l:List UInt8) (p:Nat) (br sq:Bool),l.length≤m→cO l (p+d) br sq=((cO l p br sq).1.map (Tok.move d),(cO l p br sq).2.map fun r=>(r.1+d,r.2))
 |m,[],p,br,sq,_=>rfl
 |0,c::r,p,br,sq,h=>by simp at h
 |m+1,c::r,p,br,sq,h=>by
  have bZ:c::r≠[]:=by simp
  rw[oL bZ,oL bZ];generalize hl:c::r=l at*
  have hr:=kh bZ;split
  ·rw[show p+d+1=p+1+d by omega];exact uR d m _ _ _ _ (by simp;omega)
  ·split
   ·rw[show p+d+db l=p+db l+d by omega];exact uR d m _ _ _ _ (by simp;omega)
   ·cases ht:bg l br sq with
    |bad e=>rfl
    |tok k n b q=>
     have hn:=jc bZ ht;simp only;rw[show p+d+n=p+n+d by omega,uR d m _ _ _ _ (by simp;omega)];rfl
theorem uS (h:bg l br sq= .bad e):e=110∨e=111∨e=112:=by
 unfold bg bI tA sJ at h
 repeat' split at h
 all_goals first
  |(cases h;done)
  |(injection h with h;omega)
theorem nJ: ∀(m:Nat) (l:List UInt8) (p:Nat) (br sq:Bool) (ts:List Tok) (a e:Nat),l.length≤m→cO l p br sq=(ts,some (a,e))→
  p≤a∧a<p+l.length∧(e=110∨e=111∨e=112)∧cO (l.take (a-p)) p br sq=(ts,none)
 |m,[],p,br,sq,ts,a,e,_,h=>by rw[sU]at h;cases h
 |0,c::r,p,br,sq,ts,a,e,h,_=>by simp at h
 |m+1,c::r,p,br,sq,ts,a,e,hm,h=>by
  have bZ:c::r≠[]:=by simp
  generalize hl:c::r=x at*
  have hlen:=lX bZ;have cL: ∀m,0<m→x.take m≠[]∧aq (x.take m) 0=aq x 0:=by
   intro m hm;have h1:0<(x.take m).length:=by simp;omega
   refine⟨Ez.1 h1,?_⟩;have h2:=df (x:=x.take m) (y:=x.drop m) h1;rw[DN]at h2;exact h2.symm
  cases hb:jC (aq x 0)
  ·by_cases hc:(aq x 0).toNat=35
   ·rw[jL bZ hc]at h;have hr:=kh bZ;have ih:=nJ m _ _ _ _ _ _ _ (by simp;omega) h;simp only[nV]at ih;refine⟨by omega,by omega,ih.2.2.1,?_⟩;have hk:ae eL x 0<x.length∧db x=ae eL x 0+1:=by
     have PL:db x<x.length:=by omega
     unfold db at PL ⊢
     omega
    obtain⟨h1,h2⟩:=cL (a-p) (by omega);rw[jL h1 (by rw[h2];exact hc)];have hs:ae eL (x.take (a-p)) 0=ae eL x 0:=by
     have:=eE (p:=eL) (x:=x.take (a-p)) (y:=x.drop (a-p)) (i:=0) (dQ _) (by rw[DN];simp;omega);rw[DN]at this;exact this
    have SF:db (x.take (a-p))=db x:=by
     rw[hk.2];unfold db;rw[hs];simp;omega
    rw[SF,List.drop_take,show a-p-db x=a-(p+db x)by omega];exact ih.2.2.2
   ·cases ht:bg x br sq with
    |bad e'=>
     rw[sV bZ hb hc ht]at h;injection h with h1 h2
     injection h2 with h2
     injection h2 with h2 h3
     subst h1 h2 h3;refine⟨aS _,by omega,uS ht,?_⟩;rw[Nat.sub_self,List.take_zero,sU]
    |tok k n b q=>
     have hn:=jc bZ ht;rw[oX bZ hb hc ht]at h;injection h with h1 h2
     subst h1;have ih:=nJ m (x.drop n) (p+n) b q (cO (x.drop n) (p+n) b q).1 a e (by simp;omega) (by rw[←h2]);simp only[nV]at ih;refine⟨by omega,by omega,ih.2.2.1,?_⟩;obtain⟨h3,h4⟩:=cL (a-p) (by omega);have SK:bg (x.take (a-p)) br sq= .tok k n b q:=by
      refine MY (y:=x.drop (a-p)) h3 ?_ (by simp;omega);rw[DN];exact ht
     rw[oX h3 (by rw[h4];exact hb) (by rw[h4];exact hc) SK,List.take_take,List.drop_take,show min n (a-p)=n by omega,show a-p-n=a-(p+n)by omega,ih.2.2.2]
  ·rw[cT bZ hb]at h;have ih:=nJ m _ _ _ _ _ _ _ (by simp;omega) h;simp only[nV]at ih;refine⟨by omega,by omega,ih.2.2.1,?_⟩;obtain⟨h1,h2⟩:=cL (a-p) (by omega);rw[cT h1 (by rw[h2];exact hb),List.drop_take,show a-p-1=a-(p+1)by omega];exact ih.2.2.2
def Blank (g:List UInt8):Prop:= ∀(y:List UInt8) (p:Nat) (br sq:Bool),cO (g++y) p br sq=cO y (p+g.length) br sq
theorem Blank.nil:Blank []:=fun _ _ _ _=>rfl
theorem Blank.cons (hc:jC c=true) (h:Blank g):Blank (c::g):=by
 intro y p br sq;rw[py,cT (l:=c::(g++y)) (by simp) (show jC c=true from hc)];show cO (g++y) (p+1) br sq=_;rw[h,dZ,show p+1+g.length=p+(g.length+1)by omega]
theorem D4 {c rest:Code} (l:Nat) (J:Act→World→Prop) (μ:Act→World→Nat) (hf:findLabel c l=some (Code.seq .skip rest))
  (pass: ∀a w,J a w→rest.wp P (Exit.jump l (fun a' w'=>J a' w'∧μ a' w'<μ a w) Q) a w)
  (first: ∀Q',(∀a w,J a w→rest.wp P Q' a w)→(∀e a w,(∀l',e≠.goto l')→Q e a w→Q' e a w)→c.wp P Q' a w):(Code.scope c).wp P Q a w:=by
 refine wp_scope_jumps l J μ hf (first (Exit.jump l J Q) (fun a w h=>?_) ?_) fun a w h=>wp_seq (wp_skip (pass a w h))
 ·refine wp_mono (pass a w h) fun e a' w' hq=>?_
  cases e with
  |goto l'=>exact⟨hq.1,hq.2.1⟩
  |normal=>exact hq
  |exit id=>exact hq
  |ret=>exact hq
  |panic ch=>exact hq
  |outgrown=>exact hq
 ·intro e a w he hq;cases e with
  |goto l'=>exact absurd rfl (he l')
  |normal=>exact hq
  |exit id=>exact hq
  |ret=>exact hq
  |panic ch=>exact hq
  |outgrown=>exact hq
theorem lh (h:qV w p s at' br sq v):nr w p=at':=by
 unfold nr;have:w.cell? ⟨p,1,none⟩=some (.int .i64 (at':Int)):=by rw[h.cell];rfl
 rw[this];simp
structure EL (T:Nat→World→Prop) (w:World) (p:Nat) (s:ByteArray) (R:List Tok×Option (Nat×Nat)) (at':Nat) (br sq:Bool) (v:Value) (ts:List Tok) (w':World):Prop where
 le:at'≤s.size
 z:qV w' p s at' br sq v
 own:w'.ownsRow w.heap.size 139 3 v ts.length (aP ts)
 below:Below w.heap.size w w'
 FX:T w.heap.size w'
 Oh:ts.length≤at'
 out:R=(ts++(cO (s.data.toList.drop at') at' br sq).1,(cO (s.data.toList.drop at') at' br sq).2)
def eX (l:List UInt8):List Tok×Option (Nat×Nat):=if 33554432<l.length then([],some (0,1))else cO l 0 false false
def gR (r:List Tok×Option (Nat×Nat)):List Tok:=match r.2 with|none=>r.1|some _=>[]
def za (r:List Tok×Option (Nat×Nat)):Nat:=match r.2 with|none=>0|some x=>x.1
def rN (r:List Tok×Option (Nat×Nat)):Nat:=match r.2 with|none=>0|some x=>x.2
def fu (w:World) (r:List Tok×Option (Nat×Nat)) (e:Ending) (w':World):Prop:=
 ∃v,e= .returned (.tuple #[v,.int .i64 (za r:Nat),.int .i64 (rN r:Nat)])∧w'.ownsRow w.heap.size 139 3 v (gR r).length (aP (gR r))∧Below w.heap.size w w'
theorem fu.bad {r:List Tok×Option (Nat×Nat)} {a:Nat} (h:r.2=some (a,k)) (hb:Below w.heap.size w w'):fu w r (.returned (.tuple #[.slice none 0 0,.int .i64 (a:Int),.int .i64 (k:Int)])) w':=by
 refine⟨.slice none 0 0,?_,?_,hb⟩
 ·rw[za,rN,h]
 ·rw[gR,h];exact rh _ _ _ _
theorem fu.aeD {r:List Tok×Option (Nat×Nat)} (h:r.2=none) (ho:w'.ownsRow w.heap.size 139 3 v r.1.length (aP r.1)) (hb:Below w.heap.size w w'):fu w r (.returned (.tuple #[v,.int .i64 0,.int .i64 0])) w':=by
 refine⟨v,?_,?_,hb⟩
 ·rw[za,rN,h];rfl
 ·rw[gR,h];exact ho
theorem xh: ∀(l:List UInt8),Lib.indexByte l 10=if ae eL l 0<l.length then(ae eL l 0:Int)else-1
 |[]=>by simp[Lib.indexByte]
 |c::r=>by
  have ih:=xh r;rw[Lib.indexByte];by_cases h:c=10
  ·subst h;have:ae eL (10::r) 0=0:=by simp[ae,rf,eL]
   rw[this,au (by rfl),au (by simp)];rfl
  ·have hn:eL c=true:=by
    simp only[eL,jA,ne_eq];intro e;exact h ((yU (n:=10) (by omega)).2 e)
   have h1:ae eL (c::r) 0=ae eL r 0+1:=by simp[ae,rf,hn]
   have hb:(c==10)=false:=by simp[h]
   have hl:(c::r).length=r.length+1:=rfl;rw[hb,h1,hl];by_cases h2:ae eL r 0<r.length
   ·have h3:ae eL r 0+1<r.length+1:=by omega
    have:((ae eL r 0:Int)== -1)=false:=by
     have h4: ¬(ae eL r 0:Int)= -1:=by omega
     exact bN.2 h4
    rw[au h2]at ih;rw[ih,this,au h3];simp
   ·have h3: ¬ae eL r 0+1<r.length+1:=by omega
    rw[af h2]at ih;rw[ih,af h3];simp
theorem EL.move {ok:List UInt8→Prop} (hT:pK ok T) {w w':World} {p:Nat} {s:ByteArray} {R:List Tok×Option (Nat×Nat)} {at' n:Nat} {br sq:Bool} {v:Value} {ts:List Tok} (h:EL T w p s R at' br sq v ts w')
  (hp:w.heap.size≤p) (hn:at'+n≤s.size) (he:cO (s.data.toList.drop at') at' br sq=cO (s.data.toList.drop (at'+n)) (at'+n) br sq) (y:Int) (hy:y=((at'+n:Nat):Int)):
  EL T w p s R (at'+n) br sq v ts (w'.setCell ⟨p,1,none⟩ (.int .i64 y)):=by
 subst hy;have hb:=(aV w.heap.size w').setCell (p:=⟨p,1,none⟩) hp (.int .i64 ((at'+n:Nat):Int));refine⟨hn,?_,aD h.own h.z (by decide) _,h.below.trans hb,hT.fY h.FX hb,by have:=h.Oh;omega,?_⟩
 ·have:=aK.bT h.z 1 (.int .i64 ((at'+n:Nat):Int));simpa [qV]using this
 ·rw[h.out,he]
def rF (T:Nat→World→Prop) (w:World) (p:Nat) (s:ByteArray) (R:List Tok×Option (Nat×Nat)) (a':Act) (w':World):Prop:=
 ∃(at':Nat) (br sq:Bool) (v:Value) (ts:List Tok) (u:Nat→Value),a'={tmps:=#[.string s,undef,.slice none 0 0,.int .i64 0,.int .i64 0,.pointer (some ⟨p,0,none⟩),u 6,u 7,u 8,u 9,u 10,u 11,u 12,u 13,u 14,u 15,u 16,u 17,u 18,u 19,u 20,u 21,u 22,u 23,u 24,u 25,u 26,u 27,u 28,u 29,u 30,u 31,u 32,u 33,u 34,u 35,u 36,u 37,u 38,u 39,u 40,u 41,u 42,u 43,u 44,u 45,u 46,u 47,u 48,u 49,u 50,u 51,u 52,u 53,u 54,u 55,u 56,u 57,u 58,u 59,u 60,u 61,u 62,u 63,u 64,u 65,u 66,u 67,u 68,u 69,u 70,u 71,u 72,u 73,u 74,u 75,u 76],defers:=[]}∧EL T w p s R at' br sq v ts w'∧s.size≤33554432
theorem rF.lay {R:List Tok×Option (Nat×Nat)} {ts:List Tok} 
  (hf:a'={tmps:=#[.string s,undef,.slice none 0 0,.int .i64 0,.int .i64 0,.pointer (some ⟨p,0,none⟩),a'.tmps.getD 6 undef,a'.tmps.getD 7 undef,a'.tmps.getD 8 undef,a'.tmps.getD 9 undef,a'.tmps.getD 10 undef,a'.tmps.getD 11 undef,a'.tmps.getD 12 undef,a'.tmps.getD 13 undef,a'.tmps.getD 14 undef,a'.tmps.getD 15 undef,a'.tmps.getD 16 undef,a'.tmps.getD 17 undef,a'.tmps.getD 18 undef,a'.tmps.getD 19 undef,a'.tmps.getD 20 undef,a'.tmps.getD 21 undef,a'.tmps.getD 22 undef,a'.tmps.getD 23 undef,a'.tmps.getD 24 undef,a'.tmps.getD 25 undef,a'.tmps.getD 26 undef,a'.tmps.getD 27 undef,a'.tmps.getD 28 undef,a'.tmps.getD 29 undef,a'.tmps.getD 30 undef,a'.tmps.getD 31 undef,a'.tmps.getD 32 undef,a'.tmps.getD 33 undef,a'.tmps.getD 34 undef,a'.tmps.getD 35 undef,a'.tmps.getD 36 undef,a'.tmps.getD 37 undef,a'.tmps.getD 38 undef,a'.tmps.getD 39 undef,a'.tmps.getD 40 undef,a'.tmps.getD 41 undef,a'.tmps.getD 42 undef,a'.tmps.getD 43 undef,a'.tmps.getD 44 undef,a'.tmps.getD 45 undef,a'.tmps.getD 46 undef,a'.tmps.getD 47 undef,a'.tmps.getD 48 undef,a'.tmps.getD 49 undef,a'.tmps.getD 50 undef,a'.tmps.getD 51 undef,a'.tmps.getD 52 undef,a'.tmps.getD 53 undef,a'.tmps.getD 54 undef,a'.tmps.getD 55 undef,a'.tmps.getD 56 undef,a'.tmps.getD 57 undef,a'.tmps.getD 58 undef,a'.tmps.getD 59 undef,a'.tmps.getD 60 undef,a'.tmps.getD 61 undef,a'.tmps.getD 62 undef,a'.tmps.getD 63 undef,a'.tmps.getD 64 undef,a'.tmps.getD 65 undef,a'.tmps.getD 66 undef,a'.tmps.getD 67 undef,a'.tmps.getD 68 undef,a'.tmps.getD 69 undef,a'.tmps.getD 70 undef,a'.tmps.getD 71 undef,a'.tmps.getD 72 undef,a'.tmps.getD 73 undef,a'.tmps.getD 74 undef,a'.tmps.getD 75 undef,a'.tmps.getD 76 undef],defers:=[]}) (h:EL T w p s R at' br sq v ts w') (hs:s.size≤33554432):rF T w p s R a' w':=⟨at',br,sq,v,ts,fun i=>a'.tmps.getD i undef,hf,h,hs⟩
theorem UP {ok:List UInt8→Prop} (hT:pK ok T) (w:World) (s:ByteArray) (hs:s.size≤281474976710) (cJ: ∀k,Tz ok (s.data.toList.drop k)) (kL:T w.heap.size w):
  Calls prog 116 #[.string s] w (fu w (eX s.data.toList)):=by
 obtain⟨p,hp⟩: ∃p,p=w.heap.size:=⟨_,rfl⟩;obtain⟨R,hR⟩: ∃R,R=eX s.data.toList:=⟨_,rfl⟩;rw[←hR];have gW:w.heap.size≤p:=by omega
 have HP:=aa hp;have FY:=aa hR;clear hp hR;go_enter func116,ntmps116;go_wp2_with fail;refine D4 0 (rF T w p s R) (fun _ w'=>s.size-nr w' p) rfl ?_ ?_
 ·rintro a' w' ⟨at',br,sq,v,ts,u,rfl,hI,iE⟩;have c1:w'.cell? ⟨p,1,none⟩=some (.int .i64 (at':Int)):=by rw[hI.z.cell];rfl
  have f1:w'.frozen? ⟨p,1,none⟩=false:=hI.z.frozen 1;have hle:=hI.le;have hmu:nr w' p=at':=lh hI.z;rw[hmu];cases he:((at':Int)==(s.size:Int))
  ·have cL:at'<s.size:=by
    have: ¬(at':Int)=s.size:=by simpa using he
    omega
   have Xm:at'<s.data.toList.length:=by rw[ab];exact cL
   have bZ:s.data.toList.drop at'≠[]:=by
    intro h;have:=cz List.length h;simp at this;omega
   have ha0:aq (s.data.toList.drop at') 0=s[at']:=by rw[gE,iK,ar cL]
   have aqX:IntKind.i64.wrap ((at':Int)+1)=((at'+1:Nat):Int):=by rw[xE];omega
   have q1:((at':Int)≤(s.size:Int))=True:=by simp;omega
   have Zu: ∀n,(s.data.toList.drop at').drop n=s.data.toList.drop (at'+n):=fun n=>by rw[yS]
   have HI:=aa hI;have Ir:=aa bZ;have HA:=aa ha0;have PS:=aa Zu;clear hI bZ ha0 Zu;cases e9:((s[at'].toNat:Int)==9)
   ·cases LM:((s[at'].toNat:Int)==10)
    ·cases e13:((s[at'].toNat:Int)==13)
     ·cases e32:((s[at'].toNat:Int)==32)
      ·cases e35:((s[at'].toNat:Int)==35)
       ·have yC:jC (aq (s.data.toList.drop at') 0)=false:=by
         rw[HA.out];have h9:=kJ e9;have Ia:=kJ LM;have h13:=kJ e13;have h32:=kJ e32;simp[jC];omega
        have aeE:(aq (s.data.toList.drop at') 0).toNat≠35:=by rw[HA.out];have:=kJ e35;omega
        have vK:ts.length≤1099511627776:=by have:=HI.out.Oh;omega
        have Oi:=aa yC;have aeF:=aa aeE;clear yC aeE;go_wp2_with fail;refine(QQ hT w' w.heap.size p s at' br sq v ts hs cL (cJ at') HI.out.FX HI.out.z HI.out.own vK gW).mono ?_;intro e w5 iI;cases hr:bg (s.data.toList.drop at') br sq with
        |bad k=>
         rw[hr]at iI;obtain⟨rfl,v5,Xn,Zv,nc⟩:=iI;have hk:=uS hr;have lS:((k:Int) != 0)=true:=by simp;omega
         have pc:=aa (HI.out.below.trans nc);have g1:w5.cell? ⟨p,1,none⟩=some (.int .i64 (at':Int)):=by rw[Xn.cell];rfl
         have ho:=HI.out.out;rw[sV Ir.out Oi.out aeF.out hr]at ho;have DC:=aa (show R.2=some (at',k)by rw[ho]);clear nc Zv Xn ho hr hk;go_wp2_with fail;go_quiet (fail);go_wp2_with fail
         try simp only[Exit.jump]
         go_ret3
         exact fu.bad DC.out (cr pc.out _)
        |tok k n b q=>
         rw[hr]at iI;obtain⟨rfl,v5,Xn,Zv,nc⟩:=iI;have hn:=jc Ir.out hr;simp only[nV,ab]at hn;have ho:=HI.out.out;rw[oX Ir.out Oi.out aeF.out hr,PS.out]at ho;have hI5:EL T w p s R (at'+n) b q v5 (ts++[⟨k,(s.data.toList.drop at').take n,at'⟩]) w5:=by
          refine⟨by omega,Xn,?_,HI.out.below.trans nc,hT.fY HI.out.FX nc,?_,?_⟩
          ·exact Zv
          ·have:=HI.out.Oh;simp;omega
          ·rw[ho];simp
         have HI5:=aa hI5;clear Xn Zv nc ho hr hI5;go_wp2_with fail;go_wp2;go_step3;refine⟨rfl,rF.lay (by rfl) (HI5.out) iE,?_⟩;rw[lh HI5.out.z];omega
       ·obtain⟨t,ht⟩: ∃t,t=s.extract at' s.size:=⟨_,rfl⟩;have qU:t.data.toList=s.data.toList.drop at':=by rw[ht,gr]
        have Lu:t.size=s.size-at':=by rw[ht];simp
        have ajw:(aq (s.data.toList.drop at') 0).toNat=35:=by rw[HA.out];have:=jx e35;omega
        have Zw:=xh t.data.toList;have Xo:=kh Ir.out;have hrk:db (s.data.toList.drop at')=min (ae eL t.data.toList 0+1) t.size:=by rw[db,←qU,ab]
        have aex:=bL eL t.data.toList 0 (dQ _);rw[ab]at Zw aex;have HRM:=aa (jL Ir.out ajw at' br sq);rw[PS.out]at HRM;have DI:=aa ht;clear ht qU;by_cases hk:ae eL t.data.toList 0<t.size
        ·rw[au hk]at Zw;have Ta:db (s.data.toList.drop at')=ae eL t.data.toList 0+1:=by omega
         rw[Ta]at HRM;clear hrk Xo Ta;generalize ae eL t.data.toList 0=k at*
         have a1:IntKind.i64.wrap ((k:Int)+1)=(k:Int)+1:=by rw[xE];omega
         have a2:IntKind.i64.wrap ((at':Int)+((k:Int)+1))=((at'+(k+1):Nat):Int):=by rw[xE];omega
         have a3:(0≤(k:Int))=True:=by simp
         go_wp2_with (first|(go_at_call 133;rw[←DI.out];refine(Tryz.strings_IndexByte t 10 _).mono ?_;rintro e w3 ⟨rfl,rfl⟩;simp only[show (10:Int).toNat.toUInt8=10 from rfl];rw[Zw]));go_step3;refine⟨rfl,rF.lay (by rfl) (HI.out.move hT gW (n:=k+1) (by omega) HRM.out _ (by omega)) iE,?_⟩;rw[lh (HI.out.move hT gW (n:=k+1) (by omega) HRM.out _ (by omega)).z];omega
        ·rw[af hk]at Zw;have Ta:db (s.data.toList.drop at')=t.size:=by omega
         rw[Ta]at HRM;clear hrk Xo Ta;go_wp2_with (first|(go_at_call 133;rw[←DI.out];refine(Tryz.strings_IndexByte t 10 _).mono ?_;rintro e w3 ⟨rfl,rfl⟩;simp only[show (10:Int).toNat.toUInt8=10 from rfl];rw[Zw]));go_step3;refine⟨rfl,rF.lay (by rfl) (HI.out.move hT gW (n:=t.size) (by omega) HRM.out _ (by omega)) iE,?_⟩;rw[lh (HI.out.move hT gW (n:=t.size) (by omega) HRM.out _ (by omega)).z];omega
      ·go_wp2_with fail;go_wp2;go_step3;have ot:jC (aq (s.data.toList.drop at') 0)=true:=by rw[HA.out];have:=jx e32;simp[jC];omega
       refine⟨rfl,rF.lay (by rfl) (HI.out.move hT gW (n:=1) (by omega) (by rw[cT Ir.out ot,PS.out]) _ (by omega)) iE,?_⟩;rw[lh (HI.out.move hT gW (n:=1) (by omega) (by rw[cT Ir.out ot,PS.out]) _ (by omega)).z];omega
     ·go_wp2_with fail;go_wp2;go_step3;have ot:jC (aq (s.data.toList.drop at') 0)=true:=by rw[HA.out];have:=jx e13;simp[jC];omega
      refine⟨rfl,rF.lay (by rfl) (HI.out.move hT gW (n:=1) (by omega) (by rw[cT Ir.out ot,PS.out]) _ (by omega)) iE,?_⟩;rw[lh (HI.out.move hT gW (n:=1) (by omega) (by rw[cT Ir.out ot,PS.out]) _ (by omega)).z];omega
    ·go_wp2_with fail;go_wp2;go_step3;have ot:jC (aq (s.data.toList.drop at') 0)=true:=by rw[HA.out];have:=jx LM;simp[jC];omega
     refine⟨rfl,rF.lay (by rfl) (HI.out.move hT gW (n:=1) (by omega) (by rw[cT Ir.out ot,PS.out]) _ (by omega)) iE,?_⟩;rw[lh (HI.out.move hT gW (n:=1) (by omega) (by rw[cT Ir.out ot,PS.out]) _ (by omega)).z];omega
   ·go_wp2_with fail;go_wp2;go_step3;have ot:jC (aq (s.data.toList.drop at') 0)=true:=by rw[HA.out];have:=jx e9;simp[jC];omega
    refine⟨rfl,rF.lay (by rfl) (HI.out.move hT gW (n:=1) (by omega) (by rw[cT Ir.out ot,PS.out]) _ (by omega)) iE,?_⟩;rw[lh (HI.out.move hT gW (n:=1) (by omega) (by rw[cT Ir.out ot,PS.out]) _ (by omega)).z];omega
  ·have cL:at'=s.size:=by
    have:(at':Int)=s.size:=by simpa using he
    omega
   have c4:w'.cell? ⟨p,4,none⟩=some v:=by rw[hI.z.cell];rfl
   have HI:=aa hI;clear hI;go_wp2_with fail
   try simp only[Exit.jump]
   go_ret3
   have ho:=HI.out.out;rw[cL,OC (by rw[ab];omega),sU,mz]at ho;have h2:R.2=none:=by rw[ho]
   have h1:R.1=ts:=by rw[ho]
   exact fu.aeD h2 (by rw[h1];exact HI.out.own) HI.out.below
 ·intro Q' hpass hQ';by_cases afI:(33554432:Int)<(s.size:Int)
  ·go_wp2_with fail;refine hQ' _ _ _ (fun _=>by simp) ?_;go_ret3;have h2:R.2=some (0,1):=by rw[FY.out,eX,au (by rw[ab];omega)]
   exact fu.bad h2 (aV _ _)
  ·go_wp2_with fail;go_wp2;go_step3
   try simp only[Exit.then]
   rename_i K hK;refine hK _ _ ?_;obtain rfl:=HP.out;have hb:=(aV w.heap.size w).alloc (aS _) (.cells #[.string s,.int .i64 0,.bool false,.bool false,.slice none 0 0] 191);refine hpass _ _ (rF.lay (at':=0) (br:=false) (sq:=false) (v:=.slice none 0 0) (ts:=[]) (by rfl) ⟨dQ _,aK.new w _ _,rh _ _ _ _,hb,hT.fY kL hb,dQ _,?_⟩ (by omega));rw[FY.out,eX,af (by rw[ab];omega)];rfl
def L8 (l:List UInt8):List Tok×Option (Nat×Nat)→Nat
 |([t],none)=>if t.text=l then t.kind else 0
 |_=>0
def fB (s:ByteArray):Nat:=L8 s.data.toList (eX s.data.toList)
def dB (s:ByteArray):Bool:=s.data.toList.isEmpty
def fC (s:ByteArray):Bool:=fB s==4
def iv (s:ByteArray):Bool:=fB s==3||fB s==4
def ld (s:ByteArray) (pU:Bool):Bool:=(fB s==1||(pU&&fB s==2))&& !word s.data.toList
def bJ (l:List ByteArray):Bool:=l.all fun s=>dN s.data.toList
def cP (m:PM):Bool:=dN m.name.data.toList&&decide (1≤m.op)&&decide (m.op≤4)&&valid m.value.data.toList
def iN (s:ByteArray):ByteArray:=if 1<s.size∧(aq s.data.toList 0).toNat=45 then s.extract 1 s.size else s
def mZ (l:List UInt8) (s:ByteArray):Bool:=s.data.toList==l
def iH (off tim:ByteArray):Bool:=(dB (iN off)||fC (iN off))&&(dB tim||mZ [115,116,97,114,116] tim||mZ [101,110,100] tim||fB tim==3)
def Fe (r:PR):Bool:=
 if r.given=false then !r.on&&r.mls.isEmpty&&decide (r.card=0)&&r.inc.isEmpty
 else decide (0≤r.card)&&decide (r.card≤2)&& !(decide (r.card=0)&& !r.inc.isEmpty)&&bJ r.mls&&bJ r.inc
def mH:List (List UInt8):=[[111,114],[97,110,100],[117,110,108,101,115,115],[61,61],[33,61],[60],[62],[60,61],[62,61],[43],[45],[42],[47],[37],[94]]
def mI:List (List UInt8):=[[97,118,103],[98,111,116,116,111,109,107],[99,111,117,110,116],[99,111,117,110,116,95,118,97,108,117,101,115],[103,114,111,117,112],[109,97,120],[109,105,110],[113,117,97,110,116,105,108,101],[115,116,100,100,101,118],[115,116,100,118,97,114],[115,117,109],[116,111,112,107]]
def L9 (r:PR):Bool:=dB r.op
def rO (r:PR):Bool:=dB r.text
def Gi (r:PR):Bool:=r.ms.isEmpty
def zb (r:PR):Bool:=dB r.bV
def pV (r:PR):Bool:=dB r.step
def pW (r:PR):Bool:=dB r.off&&dB r.tim
def fI (r:PR):Bool:= !r.given&& !r.on&&r.mls.isEmpty&&decide (r.card=0)&&r.inc.isEmpty
def jJ (r:PR):Bool:=r.labels.isEmpty
def du (k n:Int):Bool:=
 if k=1∨k=2∨k=3 then decide (n=0)else if k=4∨k=5∨k=6 then decide (n=1)else if k=7 then decide (n=2)else if k=8 then decide (0≤n)else if k=9 then decide (n=1)||decide (n=2)else false
def lY (r:PR):Bool:=
 if r.kind=1∨r.kind=2 then L9 r&&Gi r&&zb r&&pV r&&pW r&& !r.bool&&fI r&& !r.without&&jJ r
 else if r.kind=3 then L9 r&&zb r&&pV r&& !r.bool&&fI r&& !r.without&&jJ r
 else if r.kind=4 then L9 r&&rO r&&Gi r&&pV r&&pW r&& !r.bool&&fI r&& !r.without&&jJ r
 else if r.kind=5 then L9 r&&rO r&&Gi r&& !r.bool&&fI r&& !r.without&&jJ r
 else if r.kind=6∨r.kind=8 then rO r&&Gi r&&zb r&&pV r&&pW r&& !r.bool&&fI r&& !r.without&&jJ r
 else if r.kind=7 then rO r&&Gi r&&zb r&&pV r&&pW r&& !r.without&&jJ r
 else rO r&&Gi r&&zb r&&pV r&&pW r&& !r.bool&&fI r
def az (r:PR):Bool:=
 du r.kind r.kids&&lY r&&
 (if r.kind=1 then iv r.text
 else if r.kind=2 then valid r.text.data.toList
 else if r.kind=3 then(dB r.text||ld r.text true)&&iH r.off r.tim&&r.ms.all cP
 else if r.kind=4 then fC r.bV
 else if r.kind=5 then fC r.bV&&(dB r.step||fC r.step)&&iH r.off r.tim
 else if r.kind=6 then mZ [43] r.op||mZ [45] r.op
 else if r.kind=7 then mH.contains r.op.data.toList&&Fe r
 else if r.kind=8 then ld r.op false
 else mI.contains r.op.data.toList&&bJ r.labels)
end Go.Proofs.YtcdoilkjmjbgmaaGreatDoor
namespace Go.Proofs.YtcdoilkjmjbgmaaGreatDoor
variable {n c k deep:Nat} {rs x y:List PR} {r:PR} {s:List Nat}
def nk (r:PR):Nat:=r.kids.toNat
def trees:Nat→List PR→Bool
 |n,[]=>n==0
 |0,_::_=>false
 |n+1,r::rs=>trees (nk r+n) rs
theorem j9:trees n []=true↔n=0:=by cases n<;>simp[trees]
theorem CH:trees 0 rs=true↔rs=[]:=by cases rs<;>simp[trees]
theorem MZ:trees (n+1) (r::rs)=trees (nk r+n) rs:=rfl
theorem zu : ∀ (rs : List PR) (a b : Nat), trees (a + b) rs = true → ∃ x y, rs = x ++ y ∧ trees a x = true ∧ trees b y = true
  | [], a, b, h => by
    have:=j9.1 h
    exact⟨[],[],rfl,j9.2 (by omega),j9.2 (by omega)⟩
  | r :: rs, 0, b, h => ⟨[], r :: rs, rfl, rfl, by rw [kP] at h; exact h⟩
  | r :: rs, a + 1, b, h => by
    rw[show a+1+b=(a+b)+1 by omega,MZ,←Bk]at h
    obtain⟨x,y,h1,h2,h3⟩:=zu rs (nk r+a) b h
    exact⟨r::x,y,by rw[h1];rfl,h2,h3⟩
theorem CI : ∀ (x y : List PR) (a b : Nat), trees a x = true → trees b y = true → trees (a + b) (x ++ y) = true
  | [], y, a, b, h, k => by
    have:=j9.1 h
    subst this
    rw[kP];exact k
  | r :: x, y, 0, b, h, k => by simp [trees] at h
  | r :: x, y, a + 1, b, h, k => by
    rw[show a+1+b=(a+b)+1 by omega]
    show trees (nk r+(a+b)) (x++y)=true
    rw[←Bk]
    exact CI x y (nk r+a) b h k
theorem sZ (h:trees (n+1) rs=true): ∃r t,rs=r::t∧trees (nk r+n) t=true:=by
 cases rs with
 |nil=>simp[trees]at h
 |cons r t=>exact⟨r,t,rfl,h⟩
theorem BZ: ∀(rs:List PR) (n:Nat),trees n rs=true→n≤rs.length
 |[],n,h=>by have:=j9.1 h;omega
 |r::rs,0,h=>dQ _
 |r::rs,n+1,h=>by
  have:=BZ rs (nk r+n) h;simp only[dZ];omega
def aU:List Nat→List PR→List Nat
 |d::ds,r::rs=>d::aU (List.replicate (nk r) (d+1)++ds) rs
 |_,_=>[]
theorem iD (ds:List Nat):aU ds []=[]:=by cases ds<;>rfl
theorem xj : ∀ (x y : List PR) (ds es : List Nat), trees ds.length x = true → aU (ds ++ es) (x ++ y) = aU ds x ++ aU es y
  | [], y, ds, es, h => by
    have:=j9.1 h
    have:ds=[]:=pv.1 this
    subst this;rfl
  | r :: x, y, [], es, h => by simp [trees] at h
  | r :: x, y, a :: ds, es, h => by
    rw[py,py,aU,aU,py,←tx]
    congr 1
    refine xj x y _ es ?_
    rw[iJ,vP]
    exact h
theorem ma: ∀(rs:List PR) (ds:List Nat),trees ds.length rs=true→(aU ds rs).length=rs.length
 |[],ds,_=>by rw[iD];rfl
 |r::rs,[],h=>by simp[trees]at h
 |r::rs,d::ds,h=>by
  rw[aU,dZ,dZ,ma rs _ (by rw[iJ,vP];exact h)]
def iO (l:List Nat):Nat:=l.foldl max 0
theorem foldl_max (l:List Nat): ∀a b:Nat,l.foldl max (max a b)=max a (l.foldl max b):=by
 induction l with
 |nil=>intro a b;rfl
 |cons x l ih=>intro a b;rw[List.foldl_cons,List.foldl_cons,Nat.max_assoc,ih]
theorem oY (a:Nat) (l:List Nat):iO (a::l)=max a (iO l):=by
 rw[iO,List.foldl_cons,show max 0 a=max a 0 by omega,foldl_max];rfl
theorem JU (a b:List Nat):iO (a++b)=max (iO a) (iO b):=by
 induction a with
 |nil=>simp[iO]
 |cons x a ih=>rw[py,oY,oY,ih,Nat.max_assoc]
def ie (rs:List PR):Nat:=iO (aU [1] rs)
def iw:List PR→Bool
 |[]=>false
 |q::_=>decide (q.kind=3)
def dh:List PR→Bool
 |[]=>true
 |r::rs=>(!decide (r.kind=4)||iw rs)&&dh rs
def dC (rs:List PR):Bool:=trees 1 rs&&rs.all az&&dh rs
def bA (rs:List PR):Nat:=if dC rs=true then(if 128<ie rs then 3 else 0)else 120
structure qQ where
 name:ByteArray
 ms:List PM
 off:ByteArray
 tim:ByteArray
def eR (rs:List PR):List qQ:=(rs.filter fun r=>decide (r.kind=3)).map fun r=>⟨r.text,r.ms,r.off,r.tim⟩
def Bv:List Nat→List Nat
 |[]=>[]
 |c::s=>List.replicate (c-1) (s.length+2)++Bv s
def vL:List Nat→List Nat
 |[]=>[]
 |c::s=>List.replicate c (s.length+2)++Bv s
def norm:List Nat→List Nat
 |0::c::s=>norm ((c-1)::s)
 |[0]=>[]
 |s=>s
 termination_by s=>s.length
theorem jm (c:Nat) (s:List Nat):norm (0::c::s)=norm ((c-1)::s):=by rw[norm]
theorem lj:norm [0]=[]:=by rw[norm]
theorem fT:norm []=[]:=by rw[norm]<;>simp
theorem lk (s:List Nat) (h:0<c):norm (c::s)=c::s:=by
 rw[norm]
 ·rintro c' s' h';injection h' with h1 _
  omega
 ·intro h';injection h' with h1 _
  omega
theorem Ff: ∀s:List Nat,vL (norm s)=vL s
 |[]=>by rw[fT]
 |[0]=>by rw[lj];rfl
 |0::c::s=>by rw[jm,Ff ((c-1)::s)];simp[vL,Bv]
 |(c+1)::s=>by rw[lk s (by omega)]
 termination_by s=>s.length
theorem Fg : ∀ s : List Nat, (norm s).length ≤ s.length
  | [] => by rw [fT]; exact aS _
  | [0] => by rw [lj]; simp
  | 0 :: c :: s => by
    rw[jm]
    have:=Fg ((c-1)::s)
    simp only[dZ]at this ⊢;omega
  | (c + 1) :: s => by rw [lk s (by omega)]; exact aS _
  termination_by s=>s.length
theorem dY (hk:k<rs.length):rs=rs.take k++rs[k]::rs.drop (k+1):=by
 rw[←pq hk,DN]
def Rest (s:List Nat):Prop:= ∀c t,s=c::t→0<c
theorem Fh: ∀s:List Nat,Rest (norm s)
 |[]=>by rw[fT];intro c t h;cases h
 |[0]=>by rw[lj];intro c t h;cases h
 |0::c::s=>by rw[jm];exact Fh ((c-1)::s)
 |(c+1)::s=>by rw[lk s (by omega)];intro c' t h;injection h with h1 _;omega
 termination_by s=>s.length
theorem s5 (h:Rest s) (hn:s≠[]):vL s=(s.length+1)::Bv s:=by
 cases s with
 |nil=>exact absurd rfl hn
 |cons c t=>
  have:=h c t rfl;obtain⟨d,rfl⟩: ∃d,c=d+1:=⟨c-1,by omega⟩;simp[vL,Bv,List.replicate_succ]
theorem UQ (h:Rest s):vL s=[]↔s=[]:=by
 constructor
 ·intro h1;cases s with
  |nil=>rfl
  |cons c t=>rw[s5 h (by simp)]at h1;cases h1
 ·rintro rfl;rfl
structure ft (x:List PR) (s:List Nat) (deep:Nat):Prop where
 rest:Rest s
 Z7:deep=iO (aU [1] x)
 more:x≠[]→ ∀y,trees 1 (x++y)=trees (vL s).length y∧aU [1] (x++y)=aU [1] x++aU (vL s) y
 none_:x=[]→s=[]
theorem ft.start:ft [] [] 0:=⟨fun c t h=>(by cases h),rfl,fun h=>absurd rfl h,fun _=>rfl⟩
theorem Fi (l:List Nat) (a:Nat):iO (l++[a])=max (iO l) a:=by
 rw[JU,show iO [a]=a by rw[oY];simp[iO]]
theorem ft.step (h:ft x s deep) (r:PR) (hs:x=[]∨s≠[]):
  ft (x++[r]) (norm (nk r::s)) (max deep (s.length+1)):=by
 have hp: ∀y,trees 1 ((x++[r])++y)=trees (vL (nk r::s)).length y∧aU [1] ((x++[r])++y)=aU [1] x++(s.length+1)::aU (vL (nk r::s)) y:=by
  intro y;rw[tx,List.singleton_append];by_cases hx:x=[]
  ·have h0:=h.none_ hx;subst hx h0;simp only[ry,vL,Bv,mz,nW,kP,vP,aU,ry];refine⟨?_,by simp⟩;show trees (nk r+0) y=_;rfl
  ·have hn:s≠[]:=hs.resolve_left hx;obtain⟨h1,h2⟩:=h.more hx (r::y);rw[h1,h2,s5 h.rest hn];refine⟨?_,by simp[aU,vL]⟩;show trees (nk r+(Bv s).length) y=_;simp[vL]
 refine⟨Fh _,?_,fun _ y=>?_,fun h=>absurd h (by simp)⟩
 ·have h1:=(hp []).2;rw[mz,iD]at h1;rw[h1,Fi,h.Z7]
 ·obtain⟨h1,h2⟩:=hp y;have h3:=(hp []).2;rw[mz,iD]at h3;rw[Ff];exact⟨h1,by rw[h2,h3,tx];rfl⟩
theorem ft.full (h:ft x s deep) (hx:x≠[]) (hs:s=[]) (r:PR) (y:List PR):trees 1 (x++r::y)=false:=by
 rw[(h.more hx (r::y)).1,hs];rfl
theorem ft.done (h:ft x s deep):trees 1 x=(!x.isEmpty&&s.isEmpty):=by
 by_cases hx:x=[]
 ·subst hx;rfl
 ·have h1:=(h.more hx []).1;rw[mz]at h1;rw[h1];have h2:=UQ h.rest;cases s with
  |nil=>simp[vL,trees,hx]
  |cons c t=>
   rw[s5 h.rest (by simp)];simp[trees]
theorem ft.ie {x:List PR} {s:List Nat} {deep:Nat} (h:ft x s deep):deep=ie x:=h.Z7
theorem CJ (h:(x++r::y).length<nk r):trees 1 (x++r::y)=false:=by
 have gen: ∀(x:List PR) (n:Nat),(x++r::y).length<nk r→trees n (x++r::y)=false:=by
  intro x;induction x with
  |nil=>
   intro n h;cases n with
   |zero=>rfl
   |succ n=>
    cases hc:trees (n+1) ([]++r::y)with
    |false=>rfl
    |true=>
     have h1:=BZ y (nk r+n) hc;simp only[ry,dZ]at h;omega
  |cons q x ih=>
   intro n h;cases n with
   |zero=>rfl
   |succ n=>exact ih _ (by simp only[py,dZ]at h;omega)
 exact gen x 1 h
theorem KA (h:dh y=false):dh (x++y)=false:=by
 induction x with
 |nil=>exact h
 |cons r x ih=>rw[py,dh,ih,tQ]
theorem G2 (h:iw y=false) (hk:r.kind=4):dh (x++r::y)=false:=by
 refine KA ?_;rw[dh,h,dR hk];rfl
def rG (x y:List PR):Bool:=x.all az&&(dh (x++y)==dh y)
theorem G3 (h:(dh (x++r::y)==dh (r::y))=true) (hr:(!decide (r.kind=4)||iw y)=true):
  (dh ((x++[r])++y)==dh y)=true:=by
 rw[tx,List.singleton_append,cC.1 h,dh,hr,mC];simp
theorem CK (h:rG x (r::y)=true) (hs:az r=true) (hr:(!decide (r.kind=4)||iw y)=true):rG (x++[r]) y=true:=by
 unfold rG at h ⊢
 rw[kN]at h ⊢
 exact⟨by rw[Ja,h.1];simp[hs],G3 h.2 hr⟩
theorem Fj (h:rG x []=true):dC x=trees 1 x:=by
 unfold rG at h;rw[kN,mz]at h;rw[dC,h.1,cC.1 h.2];simp[dh]
end Go.Proofs.YtcdoilkjmjbgmaaGreatDoor
namespace Go.Proofs.YtcdoilkjmjbgmaaGreatDoor
open Go.RowKit
open Tryz
variable {W W' w0 w w':World} {b n c g e x k o a base cap9 F r p at' er size m d:Nat} {xs:List Value} {u v:Value} {s t:List Nat} {P:Program} {ops:Array Oper} {rest:List Oper} {l:List UInt8} {ao:Option Addr} {T:Nat→World→Prop} {br sq rm col:Bool} {L:List (Nat×PR)} {rs:List PR}
theorem B7 : ∀ s : List Nat, (∀ c ∈ s.tail, 0 < c) → ∀ c ∈ norm s, 0 < c
  | [], _ => by rw [fT]; intro c h; cases h
  | [0], _ => by rw [lj]; intro c h; cases h
  | 0 :: c :: s, h => by
    rw[jm]
    exact B7 ((c-1)::s) fun x hx=>h x (yH _ hx)
  | (c + 1) :: s, h => by
    rw[lk s (by omega)]
    intro x hx
    rcases gB.1 hx with rfl|hx
    · omega
    · exact h x hx
  termination_by s=>s.length
def tB (n:Nat):Value:=.int .i64 (n:Int)
def dL (b:Nat) (W:World) (v:Value) (s:List Nat):Prop:=W.ownsRow b 3 1 v s.length (s.reverse.map tB)
theorem dL.nil (b:Nat) (W:World):dL b W (.slice none 0 0) []:=rh _ _ _ _
theorem Yt {e:TypeId} (h:W.ownsRow b e 1 (.slice (some ⟨g,0,none⟩) (n+1) c) (n+1) (xs++[u])):W.ownsRow b e 1 (.slice (some ⟨g,0,none⟩) n c) n xs:=by
 have hl:xs.length=n:=by have:=h.1;simp at this;omega
 refine⟨by omega,?_⟩;rcases h.2 with⟨hv,_⟩|⟨g',cap9,cur,hv,h1,h2,h3,h4,h5,h6⟩
 ·cases hv
 ·injection hv with e1 e2 e3
  injection e1 with e1
  injection e1 with e1 _ _
  subst e1 e3;refine .inr ⟨g,c,cur,rfl,h1,h2,by omega,h4,h5,?_⟩;rw[ow]at h6 ⊢
  have:=cz (List.take n) h6;rw[List.take_take,mW (by omega)]at this;rw[this,Bd (by omega),A3 (by omega)]
theorem dL.form (h:dL b W v s):(v= .slice none 0 0∧s=[])∨ ∃g c,v= .slice (some ⟨g,0,none⟩) s.length c∧b≤g∧g<W.heap.size:=by
 rcases h.2 with⟨hv,hn⟩|⟨g,cap9,cur,hv,h1,h2,_⟩
 ·exact .inl ⟨hv,pv.1 hn⟩
 ·exact .inr ⟨g,cap9,hv,h1,(IF.1 h2).1⟩
theorem dL.top (h:dL b W (.slice (some ⟨g,0,none⟩) n c) (x::t)):W.cell? ⟨g,t.length,none⟩=some (.int .i64 (x:Int))∧W.frozen? ⟨g,t.length,none⟩=false:=by
 have h1:=h.2;obtain rfl:n=(x::t).length:=by
  rcases h.2 with⟨hv,_⟩|⟨g',cap9,cur,hv,_⟩
  ·cases hv
  ·injection hv
 refine⟨?_,World.ownsRow.frozenAt h _⟩;rw[IY h t.length (by simp)];simp[tB]
theorem dL.cap {b:Nat} {W:World} {g c:Nat} {s:List Nat} {n:Nat} (h:dL b W (.slice (some ⟨g,0,none⟩) n c) s):n≤c:=by
 rcases h.2 with⟨hv,_⟩|⟨g',cap9,cur,hv,_,_,h3,_⟩
 ·cases hv
 ·injection hv with e1 e2 e3
  omega
theorem dL.pop (h:dL b W (.slice (some ⟨g,0,none⟩) (n+1) c) (x::t)) (hn:n=t.length):dL b W (.slice (some ⟨g,0,none⟩) n c) t:=by
 subst hn;unfold dL at h ⊢
 rw[List.reverse_cons,mX,dZ]at h;exact Yt h
theorem dL.dec (h:dL b W (.slice (some ⟨g,0,none⟩) n c) (x::t)) (y:Nat):dL b (W.setCell ⟨g,t.length,none⟩ (.int .i64 (y:Int))) (.slice (some ⟨g,0,none⟩) n c) (y::t):=by
 obtain rfl:n=(x::t).length:=by
  rcases h.2 with⟨hv,_⟩|⟨g',cap9,cur,hv,_⟩
  ·cases hv
  ·injection hv
 have h2:=(World.ownsRow.stored h t.length (.int .i64 (y:Int))).1;have e:((x::t).reverse.map tB).set t.length (.int .i64 (y:Int))=(y::t).reverse.map tB:=by
  rw[List.reverse_cons,mX,List.reverse_cons,mX,List.set_append_right _ _ (by simp)];simp[tB]
 rw[e]at h2;exact h2
theorem dL.below (h:dL b W v s) (hb:Below W.heap.size W W'):dL b W' v s:=bf h hb
theorem norm_le {m : Nat} : ∀ s : List Nat, (∀ c ∈ s, c ≤ m) → ∀ c ∈ norm s, c ≤ m
  | [], _ => by rw [fT]; intro c h; cases h
  | [0], _ => by rw [lj]; intro c h; cases h
  | 0 :: c :: s, h => by
    rw[jm]
    refine norm_le ((c-1)::s) fun x hx=>?_
    rcases gB.1 hx with rfl|hx
    · have := h c (by simp); omega
    · exact h x (by simp [hx])
  | (c + 1) :: s, h => by rw [lk s (by omega)]; exact h
  termination_by s=>s.length
theorem dL.sl (h:dL b W v s): ∃a c,v= .slice a s.length c:=by
 rcases h.form with⟨rfl,rfl⟩|⟨g,c,rfl,_⟩
 ·exact⟨none,0,rfl⟩
 ·exact⟨_,c,rfl⟩
theorem dL.push (h:W.ownsRow b 3 1 v (s.length+1) (s.reverse.map tB++[.int .i64 (k:Int)])):dL b W v (k::s):=by
 unfold dL;rw[List.reverse_cons,mX,dZ];exact h
def rT:Value→Nat
 | .slice _ n _=>n
 |_=>0
theorem Ca:(prog.info? 3).map (fun i=>(i.zero,i.size,i.bytes))=some (some (.int .i64 0),1,8):=by kernel_rfl
def ix (v v':Value):Prop:= ∃g n m cap9,v= .slice (some ⟨g,0,none⟩) n cap9∧v'= .slice (some ⟨g,0,none⟩) m cap9
theorem mT (w:World) (base:Nat) (t ty e:TypeId) (i:TypeInfo) (z:Value) (size bytes:Nat) (ht:P.underlying t=some (.slice e)) (hi:P.info? e=some i) (hz:i.zero=some z)
  (TA:i.size=size) (H9:i.bytes=bytes) (yA:z.cells.size=size) (iE:0<size)
  (v:Value) (n:Nat) (xs:List Value) (aL:w.ownsRow base e size v n xs)
  (a:Addr) (m c:Nat) (news:List Value) (hl:news.length=m*size) (OL: ∀j u,news[j]? =some u→w.cell? (a.add j)=some u) (h1: ∀u∈news,u.oneCell'=true)
  (h63:n+m≤maxLen) (Mk:(n+m)*bytes≤140737488355328) (cN:base≤w.heap.size) (hm:0<m):
  ∃v' w',(Builtin.append_ #[t,t] ty #[v,.slice (some a) m c]).run P w= .ok v' w'∧w'.ownsRow base e size v' (n+m) (xs++news)∧w.grownBy w' v.ownBlock∧
   (ix v v'∨(v'.ownBlock=some w.heap.size∧w.grownBy w' none)):=by
 obtain⟨v',w',hr,ho,hg,aqY⟩:=run_append_own (P:=P) w base t ty e i z size bytes ht hi hz TA H9 yA iE v n xs aL a m c news hl OL h1 h63 Mk cN;refine⟨v',w',hr,ho,hg,?_⟩;rcases aL.2 with⟨rfl,rfl⟩|⟨g,cap9,cur,rfl,hbg,Is,hnc,hcm,bh,amW⟩
 ·refine .inr ⟨?_,hg⟩;have hb:m*i.bytes≤281474976710656:=by rw[H9];rw[kP]at Mk;omega
  have PL:=run_append_nil (P:=P) w t ty e i z ht hi hz a m c news (by rw[TA];exact hl) OL hm (by have:=h63;simp only[maxLen]at this;omega) hb;rw[PL]at hr;injection hr with e1 e2
  subst e1;rfl
 ·subst TA;by_cases Z8:n+m≤cap9
  ·have ajx:n*i.size+news.length≤cur.size:=by rw[hl,bh,←oB];exact fi _ Z8
   have PL:=run_append_room (P:=P) w t ty e i ht hi g n cap9 cur Is a m c news hl OL h1 Z8 ajx;rw[PL]at hr;injection hr with e1 e2
   subst e1;exact .inl ⟨g,n,n+m,cap9,rfl,rfl⟩
  ·have holds: ∀j u,xs[j]? =some u→w.cell? ((⟨g,0,none⟩:Addr).add j)=some u:=aL.cells (g:=g) rfl;have PL:=run_append_grow (P:=P) w t ty e i z ht hi hz ⟨g,0,none⟩ n cap9 xs aL.1 holds a m c news hl OL (by omega) (by have:=h63;simp only[maxLen]at this;omega) (growslice_fits (by omega) (by rw[H9];exact Mk));rw[PL]at hr;injection hr with e1 e2
   subst e1;refine .inr ⟨rfl,?_⟩;rw[←e2];exact⟨rfl,rfl,rfl,by simp,fun _ hk _=>heap_alloc_old w.drew _ hk⟩
theorem jM {o:Oper} {a:Act} {Q:Exit → Act → World → Prop} 
    (hg : o.guard = none) (s x : Operand) (t : TypeId) (vp : o.op = Op.call { callee := Callee.builtin Builtin.append, args := #[s, x], argTypes := #[t, t] })
    (base : Nat) (e : TypeId) (z : Value) (size bytes : Nat) (jD : (P.info? e).map (fun i => (i.zero, i.size, i.bytes)) = some (some z, size, bytes)) (h1 : P.underlying t = some (.slice e)) (yA : z.cells.size = size) (iE : 0 < size)
    (v : Value) (n : Nat) (xs : List Value) (hs : a.eval s = v) (aL : w0.ownsRow base e size v n xs) (us : List Value) (WV : us.length = size)
    (hx : a.eval x = .slice (some ⟨w0.heap.size, 0, none⟩) 1 1) (PD : ∀ u ∈ us, u.oneCell' = true) (pC : n + 1 ≤ maxLen) (hb : (n + 1) * bytes ≤ 140737488355328) (cN : base ≤ w0.heap.size)
    (hK : ∀ v' w', w'.ownsRow base e size v' (n + 1) (xs ++ us) → w0.grownBy w' v.ownBlock → (ix v v' ∨ (v'.ownBlock = some (w0.heap.size + 1) ∧ w0.grownBy w' none)) → wpList P ops Q rest (a.put o.dst v') w') :
    wpList P ops Q (o::rest) a (w0.alloc (.cells us.toArray e)):=by
  obtain⟨i,hi,hz,H8,H9⟩:=kR jD
  refine wpList_plain hg fun K AV=>?_
  obtain ⟨v', w', hr, r1, r2, r3⟩ := mT (P := P) (w0.alloc (.cells us.toArray e)) base t o.type e i z size bytes h1 hi hz H8 H9 yA iE v n xs (aL.alloc _) ⟨w0.heap.size, 0, none⟩ 1 1 us (by omega)
    (by intro j u hu
        have hj:j<us.length:=(yF.1 hu).1
        rw[ri,kP,vC _ _ _ _ rfl]
        simpa using hu) PD pC hb (by simp;omega) (by omega)
  unfold Oper.wp execOp
  simp only[vp,resolve,invoke,builtin,rB,tR,vQ,I7,kO,rj,hs,hx,hr]
  refine AV _ _ (hK v' w' r1 (aM (tN w0 _ _) r2) ?_)
  rcases r3 with h|⟨h,h'⟩
  · exact .inl h
  · exact .inr ⟨by simpa using h, aM (tN w0 _ _) h'⟩
def EM (w:World) (v:Value) (xs:List (Int×ByteArray×Int)):Prop:=
 (v= .slice none 0 0∧xs=[])∨ ∃g o c,v= .slice (some ⟨g,o,none⟩) xs.length c∧rM w g o xs
theorem rM.below {xs:List (Int×ByteArray×Int)} (h:rM w g o xs) (hb:Below w.heap.size w w'):rM w' g o xs:=
 ⟨gU h.1 hb.size,fun j hj=>⟨(hb.cell (p:=⟨g,_,none⟩) h.1).trans (h.2 j hj).1,(hb.cell (p:=⟨g,_,none⟩) h.1).trans (h.2 j hj).2.1,(hb.cell (p:=⟨g,_,none⟩) h.1).trans (h.2 j hj).2.2⟩⟩
theorem EM.below {w w':World} {v:Value} {xs:List (Int×ByteArray×Int)} (h:EM w v xs) (hb:Below w.heap.size w w'):EM w' v xs:=by
 rcases h with h|⟨g,o,c,h1,h2⟩
 ·exact .inl h
 ·exact .inr ⟨g,o,c,h1,h2.below hb⟩
def OM (l:List UInt8):Bool:=digit (aq l 0)||((aq l 0).toNat==46&&decide (1<l.length)&&digit (aq l 1))
def abR (l:List UInt8):Bool:=(List.range (l.length+1)).all fun k=> !OM (l.drop k)||decide (ag (l.drop k)<aY (l.drop k))
theorem UR (h:AM l):OM l=true:=by
 rcases h with h|⟨h1,h2,h3⟩
 ·simp[OM,h]
 ·simp[OM,h1,h2,h3]
theorem quiet_of (h:abR l=true) (ok:List UInt8→Prop) (k:Nat):Tz ok (l.drop k):=by
 intro hh hn;rcases dF k (l.length+1)with hk|hk
 ·have:=rq.1 h k (qy.2 hk);rw[UR hh]at this;simp at this;omega
 ·have:l.drop k=[]:=uD (by omega);rw[this]at hh;rcases hh with h|⟨_,h,_⟩
  ·exact absurd h (by decide)
  ·exact absurd h (by decide)
def DT (t:Tok):Int×ByteArray×Int:=((t.kind:Int),⟨t.text.toArray⟩,(t.pos:Int))
theorem G4 (ts:List Tok): ∀(j:Nat) (h:j<ts.length),(aP ts)[j*3]? =some (.int .i64 (ts[j].kind:Int))∧(aP ts)[j*3+1]? =some (.string ⟨ts[j].text.toArray⟩)∧(aP ts)[j*3+2]? =some (.int .i64 (ts[j].pos:Int)):=by
 induction ts with
 |nil=>intro j h;simp at h
 |cons t r ih=>
  intro j h;have e:aP (t::r)=t.cells++aP r:=by simp[aP]
  cases j with
  |zero=>rw[e];exact⟨rfl,rfl,rfl⟩
  |succ j=>
   have hl:t.cells.length=3:=rfl;obtain⟨a,b,c⟩:=ih j (by simpa using h);rw[e];refine⟨?_,?_,?_⟩
   ·rw[IV (by rw[hl];omega),hl,show (j+1)*3-3=j*3 by omega];exact a
   ·rw[IV (by rw[hl];omega),hl,show (j+1)*3+1-3=j*3+1 by omega];exact b
   ·rw[IV (by rw[hl];omega),hl,show (j+1)*3+2-3=j*3+2 by omega];exact c
theorem D5 {ts:List Tok} (h:w.ownsRow base e 3 (.slice (some ⟨g,0,none⟩) ts.length cap9) ts.length (aP ts)):rM w g 0 (ts.map DT):=by
 refine⟨(h.lt g rfl).2,fun j hj=>?_⟩;have Lr:j<ts.length:=by simpa using hj
 obtain⟨a,b,c⟩:=G4 ts j Lr;have e:(ts.map DT)[j]=DT ts[j]:=by simp
 rw[e,kP];refine⟨?_,?_,?_⟩
 ·rw[h.cellAt _ (by omega),a];rfl
 ·rw[h.cellAt _ (by omega),b];rfl
 ·rw[h.cellAt _ (by omega),c];rfl
theorem G5 {ts:List Tok} (h:w.ownsRow base e 3 v ts.length (aP ts)):EM w v (ts.map DT):=by
 rcases h.2 with⟨rfl,hn⟩|⟨g,cap9,cur,rfl,_⟩
 ·refine .inl ⟨rfl,?_⟩;rw[Bc hn];rfl
 ·exact .inr ⟨g,0,cap9,by simp,D5 h⟩
theorem G6 {ts:List Tok} (h:eX l=(ts,some (a,e))):e≠0∧a≤33554432∧e≤112:=by
 unfold eX at h;by_cases hl:33554432<l.length
 ·rw[au hl]at h;injection h with _ h
  injection h with h
  injection h with h1 h2
  omega
 ·rw[af hl]at h;have:=nJ l.length l 0 false false ts a e (aS _) h;omega
def rH (w:World) (v:Value) (xs:List (Int×ByteArray×Int)):Prop:=
 ∃ao c,v= .slice ao xs.length c∧ ∀j (h:j<xs.length),∃g o,ao=some ⟨g,o,none⟩∧g<w.heap.size∧w.cell? ⟨g,o+j*3,none⟩=some (.int .i64 xs[j].1)∧w.cell? ⟨g,o+j*3+1,none⟩=some (.string xs[j].2.1)∧w.cell? ⟨g,o+j*3+2,none⟩=some (.int .i64 xs[j].2.2)
theorem rM.at {xs:List (Int×ByteArray×Int)} (h:rM w g o xs):rH w (.slice (some ⟨g,o,none⟩) xs.length c) xs:=
 ⟨_,c,rfl,fun j hj=>⟨g,o,rfl,h.1,h.2 j hj⟩⟩
theorem EM.at {w:World} {v:Value} {xs:List (Int×ByteArray×Int)} (h:EM w v xs):rH w v xs:=by
 rcases h with⟨rfl,rfl⟩|⟨g,o,c,rfl,h⟩
 ·exact⟨none,0,rfl,fun j hj=>absurd hj (by simp)⟩
 ·exact h.at
theorem rH.below {xs:List (Int×ByteArray×Int)} (h:rH w v xs) (hb:Below w.heap.size w w'):rH w' v xs:=by
 obtain⟨ao,c,rfl,hc⟩:=h;refine⟨ao,c,rfl,fun j hj=>?_⟩;obtain⟨g,o,rfl,hg,h1,h2,h3⟩:=hc j hj;exact⟨g,o,rfl,gU hg hb.size,(hb.cell (p:=⟨g,_,none⟩) hg).trans h1,(hb.cell (p:=⟨g,_,none⟩) hg).trans h2,(hb.cell (p:=⟨g,_,none⟩) hg).trans h3⟩
theorem rH.tok {ts:List Tok} (h:rH w (.slice ao n c) (ts.map DT)):n=ts.length∧ ∀j (h:j<ts.length),∃g o,ao=some ⟨g,o,none⟩∧g<w.heap.size∧w.cell? ⟨g,o+j*3,none⟩=some (.int .i64 (ts[j].kind:Int))∧w.cell? ⟨g,o+j*3+1,none⟩=some (.string ⟨ts[j].text.toArray⟩)∧w.cell? ⟨g,o+j*3+2,none⟩=some (.int .i64 (ts[j].pos:Int)):=by
 obtain⟨ao',c',he,hc⟩:=h;injection he with h1 h2 h3
 subst h1;refine⟨by simpa using h2,fun j hj=>?_⟩;obtain⟨g,o,h1,h2,h3,h4,h5⟩:=hc j (by simpa using hj);have e:(ts.map DT)[j]'(by simpa using hj)=DT ts[j]:=by simp
 rw[e]at h3 h4 h5;exact⟨g,o,h1,h2,h3,h4,h5⟩
theorem gN (h:r<F):F-(intOf (.int .i64 ((r:Int)+1))).toNat<F-(intOf (.int .i64 (r:Int))).toNat:=by
 have h1:(intOf (.int .i64 ((r:Int)+1))).toNat=r+1:=rfl;have h2:(intOf (.int .i64 (r:Int))).toNat=r:=rfl;rw[h1,h2];exact Nat.sub_lt_sub_left h (vU r)
theorem rH.drewN {w:World} {v:Value} {xs:List (Int×ByteArray×Int)} (h:rH w v xs) (n:Nat):rH (w.drewN n) v xs:=h
theorem fu.open {r:List Tok×Option (Nat×Nat)} {e:Ending} (h:fu w r e w'):
  ∃ao c,e= .returned (.tuple #[.slice ao (gR r).length c,.int .i64 (za r:Int),.int .i64 (rN r:Int)])∧w'.ownsRow w.heap.size 139 3 (.slice ao (gR r).length c) (gR r).length (aP (gR r))∧rH w' (.slice ao (gR r).length c) ((gR r).map DT)∧Below w.heap.size w w':=by
 obtain⟨v,rfl,ho,hb⟩:=h;have hs:=G5 ho;rcases ho.2 with⟨rfl,hn⟩|⟨g,cap9,cur,rfl,_⟩
 ·rw[Bc hn]at*
  exact⟨none,0,rfl,ho,hs.at,hb⟩
 ·exact⟨_,cap9,rfl,ho,hs.at,hb⟩
theorem zv (h:(eX l).2=some (a,e)):e≠0∧a≤33554432∧e≤112:=
 G6 (ts:=(eX l).1) (by rw[←h])
theorem s6: ∀(m:Nat) (l:List UInt8) (p:Nat) (br sq:Bool),l.length≤m→(cO l p br sq).1.length≤l.length∧ ∀t∈(cO l p br sq).1,t.pos+t.text.length≤p+l.length
 |m,[],p,br,sq,_=>⟨dQ _,fun t h=>by cases h⟩
 |0,c::r,p,br,sq,h=>by simp at h
 |m+1,c::r,p,br,sq,hm=>by
  have bZ:c::r≠[]:=by simp
  generalize hl:c::r=x at*
  have hlen:=lX bZ;cases hb:jC (aq x 0)
  ·by_cases hc:(aq x 0).toNat=35
   ·have hr:=kh bZ;rw[jL bZ hc];obtain⟨i1,i2⟩:=s6 m (x.drop (db x)) (p+db x) br sq (by simp;omega);rw[nV]at i1 i2;exact⟨by omega,fun t ht=>by have:=i2 t ht;omega⟩
   ·cases ht:bg x br sq with
    |bad e'=>rw[sV bZ hb hc ht];exact⟨dQ _,fun t h=>by cases h⟩
    |tok k n b q=>
     have hn:=jc bZ ht;rw[oX bZ hb hc ht];obtain⟨i1,i2⟩:=s6 m (x.drop n) (p+n) b q (by simp;omega);rw[nV]at i1 i2;refine⟨by simp only[dZ];omega,fun t ht=>?_⟩;rcases gB.1 ht with rfl|ht
     ·simp only[nU];omega
     ·have:=i2 t ht;omega
  ·rw[cT bZ hb];obtain⟨i1,i2⟩:=s6 m (x.drop 1) (p+1) br sq (by simp;omega);rw[nV]at i1 i2;exact⟨by omega,fun t ht=>by have:=i2 t ht;omega⟩
theorem zw (l:List UInt8):(eX l).1.length≤l.length∧ ∀t∈(eX l).1,t.pos+t.text.length≤l.length:=by
 unfold eX;split
 ·exact⟨dQ _,fun t h=>by cases h⟩
 ·have:=s6 l.length l 0 false false (aS _);rw[kP]at this;exact this
theorem TZ {x s:ByteArray} (h: ¬x=s):(x.toList==s.toList)=false:=by
 rw[bN];intro e;rw[nS,nS]at e;exact h (by rw[←mk_data x,←mk_data s,e])
theorem kj (hT:pK (fun _=>True) T) (w:World) (s:ByteArray) (hs:s.size≤1048576) (kL:T w.heap.size w):
  Calls prog 101 #[.string s] w (fN w (fB s)):=by
 obtain⟨R,hR⟩: ∃R,R=eX s.data.toList:=⟨_,rfl⟩;have hk:fB s=L8 s.data.toList R:=by rw[hR];rfl
 have HK:=aa hk;have HR:=aa hR;have HE:=aa (show ∀a e,R.2=some (a,e)→e≠0 from fun a e h=>(zv (by rw[←hR];exact h)).1);have HL:Hid (R.1.length≤1048576):=aa (by
  have h1:=(zw s.data.toList).1;rw[←hR,ab]at h1;omega)
 clear hk hR;go_enter func101,ntmps101;go_wp2_with fail;refine(UP hT _ s (by omega) (fun _ _ _=>trivial) kL).mono ?_;intro e w2 hp;obtain⟨ao,ca,rfl,hoa,PT,aN⟩:=hp.open;rw[←HR.out]at hoa PT ⊢
 have HB:=aa aN;have LN:=aa PT;clear hoa PT hp aN kL;obtain⟨ts,er⟩:=R;cases er with
 |some f=>
  obtain⟨a,c⟩:=f;have he:=HE a c rfl;have hc:((c:Int)==0)=false:=by rw[bN];omega
  have kr:((c:Int) != 0)=true:=by rw[bne,hc];rfl
  simp only[rN,za,gR];have H0:Hid (fB s=0):=aa (by rw[HK.out];cases ts with|nil=>rfl|cons t ts=>cases ts<;>rfl);clear HK HE LN HR HL;go_wp2_with fail;go_ret;exact⟨by rw[H0.out];rfl,HB⟩
 |none=>
  simp only[rN,za,gR]at LN ⊢
  obtain⟨ao',c',hv,hc⟩:=LN.out;cases ts with
  |nil=>
   have H0:Hid (fB s=0):=aa (by rw[HK.out];rfl);clear HK HE LN HR HL hv hc;go_wp2_with fail;go_ret;exact⟨by rw[H0.out];rfl,HB⟩
  |cons t ts=>
   cases ts with
   |cons t2 ts=>
    have H0:Hid (fB s=0):=aa (by rw[HK.out];rfl);have hl:((((t::t2::ts).length:Nat):Int)==1)=false:=by rw[bN];simp only[dZ];omega
    have Az:((((t::t2::ts).length:Nat):Int) != 1)=true:=by rw[bne,hl];rfl
    clear HK HE LN HR HL hv hc;generalize (t::t2::ts).length=n at hl Az ⊢
    go_wp2_with fail;go_ret;exact⟨by rw[H0.out];rfl,HB⟩
   |nil=>
    obtain⟨g,o,Xp,hg,h0,h1,h2⟩:=hc 0 (by simp);injection hv with SL PN SN
    subst SL Xp;simp only[kO,rj,IX,DT,yT,iK,dZ,nW,kP]at h0 h1 h2 ⊢
    clear PN SN hc LN HR HE HL h2;by_cases he:t.text=s.data.toList
    ·have H0:Hid (fB s=t.kind):=aa (by rw[HK.out];simp[L8,he]);rw[he,mk_data]at h1;clear HK he;go_wp2_with fail;go_ret;exact⟨by rw[H0.out];rfl,HB⟩
    ·have H0:Hid (fB s=0):=aa (by rw[HK.out];simp[L8,he]);have bZ: ¬(⟨t.text.toArray⟩:ByteArray)=s:=fun h=>he (by rw[←h])
     obtain⟨x,hx⟩: ∃x:ByteArray,x=⟨t.text.toArray⟩:=⟨_,rfl⟩;rw[←hx]at h1 bZ;have XO:(x.toList==s.toList)=false:=TZ bZ;clear HK he hx bZ;go_wp2_with fail;go_ret;exact⟨by rw[H0.out];rfl,HB⟩
theorem gJ (hT:pK (fun _=>True) T) (w:World) (s:ByteArray) (hs:s.size≤1048576) (kL:T w.heap.size w):
  Calls prog 85 #[.string s] w (aG w (fC s)):=by
 have HC:=aa (kj hT w s hs kL);have HD:Hid (fC s=(((fB s:Nat):Int)==4)):=aa (by unfold fC;rw[eH];simp;omega);clear kL;go_enter func85,ntmps85;go_wp2_with fail;refine HC.mono ?_;rintro e w2 ⟨rfl,hb⟩;have HB:=aa hb;clear hb;go_wp2_with fail;go_ret;exact⟨by rw[HD.out];rfl,HB⟩
theorem KB (hT:pK (fun _=>True) T) (w:World) (s:ByteArray) (hs:s.size≤1048576) (kL:T w.heap.size w):
  Calls prog 78 #[.string s] w (aG w (iv s)):=by
 have HC:=aa (kj hT w s hs kL);have HD:Hid (iv s=(((fB s:Nat):Int)==3||((fB s:Nat):Int)==4)):=aa (by unfold iv;rw[eH];simp;omega);clear kL;generalize fB s=k at HC HD;go_enter func78,ntmps78;go_wp2_with fail;refine HC.mono ?_;rintro e w2 ⟨rfl,hb⟩;have HB:=aa hb;clear hb HC;by_cases h3:k=3
 ·subst h3;go_wp2_with fail;go_ret;exact⟨by rw[HD.out];rfl,HB⟩
 ·have h3':((k:Int)==3)=false:=by rw[bN];omega
  clear h3;go_wp2_with fail;go_ret;exact⟨by rw[HD.out,h3'];rfl,HB⟩
def pX (l:List UInt8) (k:Nat):Nat:=k+db (l.drop k)
theorem Na (h:l.length≤k):pX l k=k:=by
 rw[pX,uD h];rfl
theorem zx (h:k<l.length) (hc:(aq l k).toNat≠10):pX l (k+1)=pX l k:=by
 have hn:eL (aq l k)=true:=by simp[eL,hc]
 have h1:ae eL (l.drop k) 0=ae eL (l.drop (k+1)) 0+1:=by
  rw[drop_at h];simp[ae,rf,hn]
 unfold pX db;rw[h1,nV,nV];omega
theorem QS (h:k<l.length) (hc:(aq l k).toNat=10):pX l k=k+1:=by
 have hn:eL (aq l k)=false:=by simp[eL,hc]
 have h1:ae eL (l.drop k) 0=0:=by
  rw[drop_at h];simp[ae,rf,hn]
 unfold pX db;rw[h1,nV];omega
def gO (l:List UInt8) (br sq:Bool) (rm:Bool) (k:Nat):List Tok×Option (Nat×Nat):=if rm=true then cO (l.drop (pX l k)) (pX l k) br sq else cO (l.drop k) k br sq
theorem QT (h:k<l.length) (hc:(aq l k).toNat=10):gO l br sq false (k+1)=gO l br sq rm k:=by
 have bZ:l.drop k≠[]:=by intro e;have:=cz List.length e;simp at this;omega
 cases rm
 ·simp only[gO,lE,iG];rw[cT bZ (by rw[gE,iK];simp[jC,hc]),yS]
 ·simp only[gO,lE,iG,kT,QS h hc]
theorem Fk (h:k<l.length) (hc:(aq l k).toNat≠10):gO l br sq true (k+1)=gO l br sq true k:=by
 simp only[gO,kT,zx h hc]
theorem KC (h:k<l.length) (hc:(aq l k).toNat=35):gO l br sq true (k+1)=gO l br sq rm k:=by
 have bZ:l.drop k≠[]:=by intro e;have:=cz List.length e;simp at this;omega
 cases rm
 ·simp only[gO,lE,iG,kT];rw[jL bZ (by rw[gE,iK];exact hc),yS,zx h (by omega)];rfl
 ·exact Fk h (by omega)
theorem QU (h:k<l.length) (hc:jC (aq l k)=true):gO l br sq false (k+1)=gO l br sq false k:=by
 have bZ:l.drop k≠[]:=by intro e;have:=cz List.length e;simp at this;omega
 simp only[gO,lE,iG];rw[cT bZ (by rw[gE,iK];exact hc),yS]
theorem Nb (h:l.length≤k):gO l br sq rm k=cO (l.drop k) k br sq:=by
 cases rm
 ·rfl
 ·simp only[gO,kT,Na h]
theorem qa {s:ByteArray} (h:LZ w p s at' br sq v er):nr w p=at':=by
 unfold nr;have:w.cell? ⟨p,1,none⟩=some (.int .i64 (at':Int)):=by rw[h.cell];rfl
 rw[this];simp
structure eO (base:Nat) (w0:World) (p:Nat) (s:ByteArray) (at':Nat) (br sq:Bool) (v:Value) (ts:List Tok) (w:World):Prop where
 z:LZ w p s at' br sq v 0
 own:w.ownsRow base 139 3 v ts.length (aP ts)
 below:Below base w0 w
 bp:base≤p
theorem eO.drewN {base:Nat} {w0:World} {p:Nat} {s:ByteArray} {at':Nat} {br sq:Bool} {v:Value} {ts:List Tok} {w:World} (h:eO base w0 p s at' br sq v ts w) (n:Nat):eO base w0 p s at' br sq v ts (w.drewN n):=
 ⟨aK.drewN h.z n,h.own,cr h.below n,h.bp⟩
theorem eO.goto {s:ByteArray} {ts:List Tok} (h:eO base w0 p s at' br sq v ts w) {m:Nat} {y:Int} (hy:y=(m:Int)):eO base w0 p s m br sq v ts (w.setCell ⟨p,1,none⟩ (.int .i64 y)):=by
 subst hy;refine⟨?_,aD h.own h.z (by decide) _,h.below.setCell (p:=⟨p,1,none⟩) h.bp _,h.bp⟩;have:=aK.bT h.z 1 (.int .i64 (m:Int));simpa [LZ]using this
theorem QV (w : World) (base p : Nat) (s : ByteArray) (at' : Nat) (br sq : Bool) (v : Value) (ts : List Tok) (w0 : World) (hs : s.size ≤ 281474976710656) (cL : at' ≤ s.size) (h : eO base w0 p s at' br sq v ts w) :
    Calls prog 92 #[.pointer (some ⟨p, 0, none⟩)] w fun e w' => e = .returned (.tuple #[]) ∧
      ∃k,at'≤k∧k≤s.size∧eO base w0 p s k br sq v ts w'∧cO (s.data.toList.drop k) k br sq=cO (s.data.toList.drop at') at' br sq∧(∀hk:k<s.size,jC s[k]=false∧s[k].toNat≠35):=by
  obtain⟨R,hR⟩: ∃R,R=cO (s.data.toList.drop at') at' br sq:=⟨_,rfl⟩
  have h0:gO s.data.toList br sq false at'=R:=by rw[hR];rfl
  rw[←hR]
  have H:=aa h
  have H0:=aa h0
  clear h h0 hR
  go_enter func92,ntmps92
  go_wp2_with fail
  go_loopw [2] (fun t wr=> ∃(rm:Bool) (k:Nat),at'≤k∧k≤s.size∧t= .bool rm∧Hid (eO base w0 p s k br sq v ts wr)∧Hid (gO s.data.toList br sq rm k=R)) (fun _ wr=>s.size-nr wr p)
  case atStart=>exact⟨false,at',aS _,cL,rfl,H,H0⟩
  case round =>
    obtain⟨rm,k,mU,hk,rfl,dz,hR⟩:=hrel
    clear H H0
    have c0:wr.cell? ⟨p,0,none⟩=some (.string s):=by rw[dz.out.z.cell];rfl
    have c1:wr.cell? ⟨p,1,none⟩=some (.int .i64 (k:Int)):=by rw[dz.out.z.cell];rfl
    have hmu:nr wr p=k:=qa dz.out.z
    have HMU:=aa hmu
    clear hmu
    by_cases ax:k<s.size
    · go_wp2_with fail
      go_quiet (fail)
      have qJ:=aa (dz.out.drewN nq)
      have a0:(wr.drewN nq).cell? ⟨p,0,none⟩=some (.string s):=by rw[qJ.out.z.cell];rfl
      have a1:(wr.drewN nq).cell? ⟨p,1,none⟩=some (.int .i64 (k:Int)):=by rw[qJ.out.z.cell];rfl
      clear c0 c1
      generalize wr.drewN nq=w2 at qJ a0 a1 ⊢
      go_wp2_with fail
      go_quiet (fail)
      have Ly:=aa (qJ.out.drewN nq)
      have b0:(w2.drewN nq).cell? ⟨p,0,none⟩=some (.string s):=by rw[Ly.out.z.cell];rfl
      have b1:(w2.drewN nq).cell? ⟨p,1,none⟩=some (.int .i64 (k:Int)):=by rw[Ly.out.z.cell];rfl
      have f1:(w2.drewN nq).frozen? ⟨p,1,none⟩=false:=Ly.out.z.frozen 1
      clear a0 a1 qJ dz
      generalize w2.drewN nq=w3 at Ly b0 b1 f1 ⊢
      have Xm:k<s.data.toList.length:=by rw[ab];exact ax
      have pG:=ar ax
      have Wr:=aa Xm
      have It:=aa pG
      clear Xm pG
      cases LM:((s[k].toNat:Int)==10)
      · have Ia : (aq s.data.toList k).toNat ≠ 10 := by rw [It.out]; have := kJ LM; omega
        cases e35:((s[k].toNat:Int)==35)
        · cases rm
          · have Ws : Hid (jC s[k] = true → gO s.data.toList br sq false (k + 1) = R) := aa (fun hb => (QU (br := br) (sq := sq) Wr.out (by rw [It.out]; exact hb)).trans hR.out)
            have HE:=aa (show cO (s.data.toList.drop k) k br sq=R from hR.out)
            clear hR Ia
            have n10:=kJ LM
            have n35:=kJ e35
            have hm:nr (w3.setCell ⟨p,1,none⟩ (.int .i64 ((k:Int)+1))) p=k+1:=qa (Ly.out.goto (m:=k+1) (by omega)).z
            have HM:=aa hm
            clear hm
            go_wp2_with fail
            all_goals try simp only[jA,ne_eq,I0]at*
            all_goals first
              | (have hb : jC s[k] = true := by simp [jC]; omega
                 exact⟨⟨false,k+1,by omega,by omega,rfl,aa (Ly.out.goto (m:=k+1) (by omega)),aa (Ws.out hb)⟩,by rw[HM.out,HMU.out];omega⟩)
              | (have hb : jC s[k] = false ∧ s[k].toNat ≠ 35 := by simp [jC]; omega
                 refine cB (pB rfl _ _ _) rfl ?_
                 exact⟨rfl,k,mU,hk,Ly.out,HE.out,fun _=>hb⟩)
          · have HE := aa ((Fk (br := br) (sq := sq) Wr.out Ia).trans hR.out)
            clear hR Ia
            go_wp2_with fail
            have hm:nr (w3.setCell ⟨p,1,none⟩ (.int .i64 ((k:Int)+1))) p=k+1:=qa (Ly.out.goto (m:=k+1) (by omega)).z
            go_roundw
            case rel=>exact⟨_,k+1,by omega,by omega,rfl,aa (Ly.out.goto (m:=k+1) (by omega)),HE⟩
            case measure=>rw[hm,HMU.out];omega
        · have HE := aa ((KC (br := br) (sq := sq) (rm := rm) Wr.out (by rw [It.out]; have := jx e35; omega)).trans hR.out)
          clear hR Ia
          go_wp2_with fail
          have hm:nr (w3.setCell ⟨p,1,none⟩ (.int .i64 ((k:Int)+1))) p=k+1:=qa (Ly.out.goto (m:=k+1) (by omega)).z
          go_roundw
          case rel=>exact⟨_,k+1,by omega,by omega,rfl,aa (Ly.out.goto (m:=k+1) (by omega)),HE⟩
          case measure=>rw[hm,HMU.out];omega
      · have HE := aa ((QT (br := br) (sq := sq) (rm := rm) Wr.out (by rw [It.out]; have := jx LM; omega)).trans hR.out)
        clear hR
        go_wp2_with fail
        have hm:nr (w3.setCell ⟨p,1,none⟩ (.int .i64 ((k:Int)+1))) p=k+1:=qa (Ly.out.goto (m:=k+1) (by omega)).z
        go_roundw
        case rel=>exact⟨_,k+1,by omega,by omega,rfl,aa (Ly.out.goto (m:=k+1) (by omega)),HE⟩
        case measure=>rw[hm,HMU.out];omega
    · have uv : k = s.size := by omega
      have HE:=aa ((Nb (br:=br) (sq:=sq) (rm:=rm) (l:=s.data.toList) (k:=k) (by rw[ab];omega)).symm.trans hR.out)
      clear hR
      go_wp2_with fail
      go_quiet (fail)
      have qJ:=aa (dz.out.drewN nq)
      clear c0 c1 dz
      generalize wr.drewN nq=w2 at qJ ⊢
      go_wp2_with fail
      go_end0
      exact⟨rfl,k,mU,hk,qJ.out,HE.out,fun h=>absurd h (by omega)⟩
def eY (base:Nat) (w0:World) (p:Nat) (s:ByteArray) (at':Nat) (ts:List Tok) (r:A6) (e:Ending) (w':World):Prop:=
 e= .returned (.tuple #[])∧match r with
  | .tok k n b q=> ∃v',eO base w0 p s (at'+n) b q v' (ts++[⟨k,(s.data.toList.drop at').take n,at'⟩]) w'
  | .bad er=> ∃br sq v',LZ w' p s at' br sq v' er∧Below base w0 w'
theorem wz (s:ByteArray) (x:Int) (i:Nat) (hx:x=(i:Int)) (c:UInt8) (hc:aq s.data.toList i=c) (w:World) (hs:s.size≤maxLen):
  Calls prog 96 #[.string s,.int .i64 x] w fun e w'=>e= .returned (.int .u8 (c.toNat:Int))∧w=w':=by
 subst hx hc;exact abt s i w hs
theorem dW (c:UInt8) (b:Bool) (hb:letter c=b) (w:World):
  Calls prog 93 #[.int .u8 (c.toNat:Int)] w fun e w'=>e= .returned (.bool b)∧w=w':=by
 subst hb;exact uM c w
theorem fJ (c:UInt8) (b:Bool) (hb:digit c=b) (w:World):
  Calls prog 95 #[.int .u8 (c.toNat:Int)] w fun e w'=>e= .returned (.bool b)∧w=w':=by
 subst hb;exact xW c w
theorem bS (w:World) (base p:Nat) (s:ByteArray) (at' k n:Nat) (x y:Int) (hx:x=(k:Int)) (hy:y=(n:Int)) (br sq:Bool) (v:Value) (ts:List Tok) (w0:World) (hs:s.size≤281474976710656) (hn:at'+n≤s.size) (hk:k≤6)
  (h:eO base w0 p s at' br sq v ts w) (hlen:ts.length≤1099511627776):
  Calls prog 109 #[.pointer (some ⟨p,0,none⟩),.int .i64 x,.int .i64 y] w (eY base w0 p s at' ts (.tok k n br sq)):=by
 refine(UK w base p s at' k n x y hx hy br sq v ts hs hn hk h.z h.own hlen h.bp).mono ?_;rintro e w' ⟨rfl,v',hz,ho,hb⟩;exact⟨rfl,v',hz,ho,h.below.trans hb,h.bp⟩
theorem G7 (p:UInt8→Bool) (l:List UInt8) (i:Nat):ae p (l.drop i) 0=ae p l i-i:=by
 unfold ae;rw[Bj];omega
theorem UT (Gh:col=(!br&& !sq)) (h:letter (aq l 0)=true∨((aq l 0).toNat=58∧col=true)):
  bg l br sq= .tok (cg br (l.take (ae (bu col) l 0))) (ae (bu col) l 0) br sq:=by
 subst Gh;cases hl:letter (aq l 0)
 ·have Sk:(aq l 0).toNat=58∧(!br&& !sq)=true:=by rcases h with h|h<;>first|exact h|(rw[hl]at h;cases h)
  rw[bg,hl,af (by simp),au Sk,Sk.2];have bZ:l≠[]:=by rintro rfl;exact absurd Sk.1 (by decide)
  have yW:l=aq l 0::l.drop 1:=UJ bZ;have hn:bu true (aq l 0)=true:=by simp[bu,Sk.1]
  have e1:ae (bu true) l 0=ae (bu true) l 1:=by
   conv=>lhs;rw[yW]
   conv=>rhs;rw[yW]
   simp[ae,rf,hn];omega
  rw[e1];have pE:1≤ae (bu true) l 1:=aX _ l 1;have hc:(l.take (ae (bu true) l 1)).contains 58=true:=by
   obtain⟨m,hm⟩: ∃m,ae (bu true) l 1=m+1:=⟨ae (bu true) l 1-1,by omega⟩;rw[hm]
   conv=>lhs;rw[yW]
   have:aq l 0=58:=(yU (n:=58) (by omega)).2 Sk.1;rw[List.take_succ_cons,this];simp
  rw[cg,au hc]
 ·rw[bg,hl,au rfl]
theorem G8 {t:List UInt8} (h:t.contains 58=false) (h3:t.length≠3):cg br t=1:=by
 have hi:rL t=false:=by
  rw[Bool.eq_false_iff];intro hi;simp only[rL,tP,cC]at hi;rcases hi with hi|hi<;>(have:=cz List.length hi;simp at this;omega)
 rw[cg,h,af (by simp),hi,tQ,af (by simp)]
theorem D6 {t:List UInt8} (h:t.contains 58=false) (h3:t.length=3):cg br t=if (!br&&((t.map low==[105,110,102])||(t.map low==[110,97,110])))=true then 3 else 1:=by
 have hi:rL t=((t.map low==[105,110,102])||(t.map low==[110,97,110])):=by
  rw[rL,A3 (by omega)]
 rw[cg,h,af (by simp),hi]
def Gt (w:World) (v:Value) (l:List UInt8):Prop:=
 ∃ao c,v= .slice ao l.length c∧ ∀j (h:j<l.length),∃g o,ao=some ⟨g,o,none⟩∧g<w.heap.size∧w.cell? ⟨g,o+j,none⟩=some (.int .u8 (l[j].toNat:Int))
def TB (w:World) (v:Value) (gs:List (List UInt8)):Prop:=
 ∃ao c,v= .slice ao gs.length c∧ ∀j (h:j<gs.length),∃g o u,ao=some ⟨g,o,none⟩∧g<w.heap.size∧w.cell? ⟨g,o+j,none⟩=some u∧Gt w u gs[j]
theorem Gt.below (h:Gt w v l) (hb:Below w.heap.size w w'):Gt w' v l:=by
 obtain⟨ao,c,rfl,hc⟩:=h;refine⟨ao,c,rfl,fun j hj=>?_⟩;obtain⟨g,o,rfl,hg,h1⟩:=hc j hj;exact⟨g,o,rfl,gU hg hb.size,(hb.cell (p:=⟨g,_,none⟩) hg).trans h1⟩
theorem TB.below {w w':World} {v:Value} {gs:List (List UInt8)} (h:TB w v gs) (hb:Below w.heap.size w w'):TB w' v gs:=by
 obtain⟨ao,c,rfl,hc⟩:=h;refine⟨ao,c,rfl,fun j hj=>?_⟩;obtain⟨g,o,u,rfl,hg,h1,h2⟩:=hc j hj;exact⟨g,o,u,rfl,gU hg hb.size,(hb.cell (p:=⟨g,_,none⟩) hg).trans h1,h2.below hb⟩
def Ml (w:World) (v:Value) (xs:List (Int×ByteArray×Int)):Prop:=
 (∃ao c,v= .slice ao 0 c∧xs=[])∨ ∃g o c,v= .slice (some ⟨g,o,none⟩) xs.length c∧rM w g o xs
theorem Ml.below {w w':World} {v:Value} {xs:List (Int×ByteArray×Int)} (h:Ml w v xs) (hb:Below w.heap.size w w'):Ml w' v xs:=by
 rcases h with h|⟨g,o,c,h1,h2⟩
 ·exact .inl h
 ·exact .inr ⟨g,o,c,h1,h2.below hb⟩
abbrev Row:=Int×ByteArray×Int
def Row.cells (x:Row):List Value:=[.int .i64 x.1,.string x.2.1,.int .i64 x.2.2]
def QW (xs:List Row):List Value:=xs.flatMap Row.cells
theorem Cb {e:TypeId} (h:w.ownsRow base e size (.slice ao n c) m xs) (hm:0<m): ∃g,ao=some ⟨g,0,none⟩∧base≤g∧g<w.heap.size:=by
 rcases h.2 with⟨hv,h0⟩|⟨g,cap9,cur,hv,hb,hg,_⟩
 ·omega
 ·injection hv with h1 h2 h3
  subst h1;exact⟨g,rfl,hb,(h.lt g rfl).2⟩
inductive dK (b:Nat) (w:World):Nat→Value→List (Nat×PR)→Prop
 |mk (d:Nat) (v:Value) (r:PR) (ks:List Value) (cV:Nat→List (Nat×PR)):ba b w v r ks→(∀i (h:i<ks.length),dK b w (d+1) ks[i] (cV i))→dK b w d v ((d,r)::(List.range ks.length).flatMap cV)
theorem dK.later (hb:Below w.heap.size w w') {d:Nat} {v:Value} {L:List (Nat×PR)} (h:dK b w d v L):dK b w' d v L:=by
 induction h with
 |mk d v r ks cV h0 _ ih=>exact .mk d v r ks cV (h0.below hb) fun i hi=>ih i hi
theorem ba.kids {b:Nat} {w:World} {v:Value} {r:PR} {ks:List Value} (h:ba b w v r ks):r.kids=(ks.length:Int):=by cases h<;>rfl
theorem ba.nk {b:Nat} {w:World} {v:Value} {r:PR} {ks:List Value} (h:ba b w v r ks):nk r=ks.length:=by
 unfold Go.Proofs.YtcdoilkjmjbgmaaGreatDoor.nk;rw[h.kids];rfl
theorem ba.lo {b b':Nat} {w:World} {v:Value} {r:PR} {ks:List Value} (h:ba b w v r ks) (hb:b'≤b):ba b' w v r ks:=by
 cases h with
 |number g yD hg t c0=>exact .number g (bP hb yD) hg t c0
 |text g yD hg t c0=>exact .text g (bP hb yD) hg t c0
 |selector g yD hg t off tim vm ms hm c0 c1 c2 c3=>exact .selector g (bP hb yD) hg t off tim vm ms (hm.lo hb) c0 c1 c2 c3
 |range g yD hg d p c0 c1=>exact .range g (bP hb yD) hg d p c0 c1
 |subquery g yD hg d s off tim t x c0 c1 c2 c3 c4=>exact .subquery g (bP hb yD) hg d s off tim t x c0 c1 c2 c3 c4
 |unary g yD hg o t x c0 c1=>exact .unary g (bP hb yD) hg o t x c0 c1
 |binary g yD hg o t u x y bo gi on vl vi ls inc card hl hi c0 c1 c2 c3 c4 c5 c6 c7 c8=>exact .binary g (bP hb yD) hg o t u x y bo gi on vl vi ls inc card (hl.lo hb) (hi.lo hb) c0 c1 c2 c3 c4 c5 c6 c7 c8
 |call g yD hg o va ks hk c0 c1=>exact .call g (bP hb yD) hg o va ks (by obtain⟨ao,c,h1,h2⟩:=hk;exact⟨ao,c,h1,fun j hj=>by obtain⟨g,o,a,l,u⟩:=h2 j hj;exact⟨g,o,a,bP hb l,u⟩⟩) c0 c1
 |aggr g yD hg o t x wo vl ls hl c0 c1 c2 c3 c4=>exact .aggr g (bP hb yD) hg o t x wo vl ls (hl.lo hb) c0 c1 c2 c3 c4
 |aggr2 g yD hg o t u x y wo vl ls hl c0 c1 c2 c3 c4=>exact .aggr2 g (bP hb yD) hg o t u x y wo vl ls (hl.lo hb) c0 c1 c2 c3 c4
theorem dK.lo {b b':Nat} {w:World} (hb:b'≤b) {d:Nat} {v:Value} {L:List (Nat×PR)} (h:dK b w d v L):dK b' w d v L:=by
 induction h with
 |mk d v r ks cV h0 _ ih=>exact .mk d v r ks cV (h0.lo hb) fun i hi=>ih i hi
theorem CL {d:Nat} {cV:Nat→List (Nat×PR)}: ∀n:Nat,(∀i,i<n→trees 1 ((cV i).map (·.2))=true∧aU [d] ((cV i).map (·.2))=(cV i).map (·.1))→
  trees n (((List.range n).flatMap cV).map (·.2))=true∧aU (List.replicate n d) (((List.range n).flatMap cV).map (·.2))=((List.range n).flatMap cV).map (·.1)
 |0,_=>⟨rfl,rfl⟩
 |n+1,h=>by
  obtain⟨h1,h2⟩:=CL n fun i hi=>h i (by omega)
  obtain⟨h3,h4⟩:=h n (by omega);rw[ru,yI,vS,List.flatMap_nil,mz,mX,mX];refine⟨CI _ _ n 1 h1 h3,?_⟩;rw[List.replicate_succ',xj _ _ _ _ (by rw[vP];exact h1),h2,h4]
theorem dK.plain (h:dK b w d v L):trees 1 (L.map (·.2))=true∧aU [d] (L.map (·.2))=L.map (·.1):=by
 induction h with
 |mk d v r ks cV h0 _ ih=>
  obtain⟨h1,h2⟩:=CL ks.length fun i hi=>ih i hi
  rw[kO,kO];refine⟨?_,?_⟩
  ·show trees (nk r+0) _=true;rw[h0.nk];exact h1
  ·rw[aU,h0.nk,mz,h2]
def nt (d:Nat) (rs:List PR):List (Nat×PR):=(aU [d] rs).zip rs
theorem zip_map (L:List (Nat×PR)):(L.map (·.1)).zip (L.map (·.2))=L:=by
 induction L with
 |nil=>rfl
 |cons x L ih=>rw[kO,kO,List.zip_cons_cons,ih]
theorem dK.nt {b:Nat} {w:World} {d:Nat} {v:Value} {L:List (Nat×PR)} (h:dK b w d v L):L=nt d (L.map (·.2)):=by
 unfold Go.Proofs.YtcdoilkjmjbgmaaGreatDoor.nt;rw[h.plain.2,zip_map]
theorem CM (h:trees 1 rs=true):(nt d rs).map (·.2)=rs:=by
 unfold nt;rw[List.map_snd_zip];have:=ma rs [d] h;omega
theorem G9 (h:trees 1 rs=true):(nt d rs).map (·.1)=aU [d] rs:=by
 unfold nt;rw[List.map_fst_zip];have:=ma rs [d] h;omega
def eU (b:Nat) (w:World) (v:Value) (L:List (Nat×PR)):Prop:=(v= .nilIface∧L=[])∨dK b w 1 v L
theorem eU.below (hb:Below w.heap.size w w') {v:Value} {L:List (Nat×PR)} (h:eU b w v L):eU b w' v L:=h.elim .inl fun h=>.inr (h.later hb)
theorem ba.iface {b:Nat} {w:World} {v:Value} {r:PR} {ks:List Value} (h:ba b w v r ks): ∃t g,v= .iface t (.pointer (some ⟨g,0,none⟩)):=by cases h<;>exact⟨_,_,rfl⟩
theorem dK.iface {b:Nat} {w:World} {d:Nat} {v:Value} {L:List (Nat×PR)} (h:dK b w d v L): ∃t g,v= .iface t (.pointer (some ⟨g,0,none⟩)):=by
 cases h with
 |mk d v r ks cV h0 _=>exact h0.iface
