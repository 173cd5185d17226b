import Derived.Test.YtcdoilkjmjbgmaaGreatDoorS07
import Derived.WalkMore
import Derived.ScopeJumps
import Derived.OwnWalk
import Derived.Laws.OwnMore
import Derived.Deep.CutBlock
import Derived.Test.YtcdoilkjmjbgmaaGreatDoorS08
/- Part of the proof of YtcdoilkjmjbgmaaGreatDoorCardY: PlJ PlK LexH TrA TrB TrI TrYa App LexJ LawA LawB LawC LawD TrK RdB RdC RdN LawE LawW LawH TrJ. -/
set_option maxRecDepth 100000
set_option maxHeartbeats 4000000
set_option linter.unusedVariables false
set_option linter.unusedSimpArgs false
namespace Go.Proofs.YtcdoilkjmjbgmaaGreatDoor
open Go.RowKit
open Go.Proofs.Tryz
variable {x y l g:List UInt8} {n k e p at':Nat} {br sq b q:Bool} {c:UInt8} {P:Program} {a a':Act} {w w':World} {Q:Exit→Act→World→Prop} {s:ByteArray} {v:Value} {T:Nat→World→Prop}
theorem sD {q : UInt8} {y : List UInt8} : ∀ {x : List UInt8} {n : Nat}, eI q (x ++ y) = some n → n ≤ x.length → eI q x = some n
  | [], n, h, hn => by have := mG _ _ _ h; simp at hn; omega
  | [c], n, h, hn => by
    have h1:=(mG _ _ _ h).1
    simp only[List.length_singleton]at hn
    cases y with
    | nil => simpa using h
    | cons d r =>
      simp only[List.singleton_append,eI]at h
      by_cases hc:c=q
      · subst hc; rw [Ox, show n = 1 by omega]
      · exfalso
        rw[ah hc]at h
        have two : ∀ {o : Option Nat} {a : Nat}, 1 ≤ a → (∀ m, o = some m → 1 ≤ m) → o.map (· + a) = some n → False := by
          intro o a ha ho h
          obtain⟨m,hm,rfl⟩:=xe.1 h
          have:=ho m hm
          omega
        repeat' split at h
        all_goals first
          | (cases h; done)
          | exact two (by omega) (fun m hm => (mG _ _ _ hm).1) h
  | c :: d :: r, n, h, hn => by
    simp only[ek]at hn
    simp only[oh,eI]at h ⊢
    split
    · rename_i hc; rw [az hc] at h; exact h
    · rename_i hc
      rw[ah hc]at h
      split
      · rename_i h1
        rw[az h1]at h
        obtain⟨m,hm,rfl⟩:=xe.1 h
        rw[sD (x:=d::r) (y:=y) hm (by simp;omega)];rfl
      · rename_i h1
        rw[ah h1]at h
        split
        · rename_i h2; rw [az h2] at h; cases h
        · rename_i h2
          rw[ah h2]at h
          split
          · rename_i h3
            rw[az h3]at h
            split
            · rename_i h4; rw [az h4] at h; cases h
            · rename_i h4
              rw[ah h4]at h
              obtain⟨m,hm,rfl⟩:=xe.1 h
              rw[sD (x:=r) (y:=y) hm (by omega)];rfl
          · rename_i h3
            rw[ah h3]at h
            obtain⟨m,hm,rfl⟩:=xe.1 h
            rw[sD (x:=d::r) (y:=y) hm (by simp;omega)];rfl
theorem MH (hx:x≠[]) (h:bC (x++y) 0=some n) (hn:n≤x.length):bC x 0=some n:=by
 have hl:=lO hx;unfold bC at h ⊢
 rw[db hl]at h;split at h
 ·rename_i h1;rw[az ⟨by omega,h1.2⟩];obtain⟨m,hm,rfl⟩:=xe.1 h;rw[Io (by omega)]at hm;rw[sD hm (by simp;omega)];rfl
 ·cases h
theorem DG (h1:(au l 0).toNat=46) (h2:1<l.length) (h3:digit (au l 1)=true):2≤an l:=by
 have hh:aR l=false:=by simp[aR,h1]
 have h0:ag digit l 0=0:=dw (by omega) (by simp[digit,h1]);have h4:aK l=ag digit l 1:=by rw[aK,h0,ah (by omega),az ⟨rfl,h2,h1,h3⟩]
 have h5:2≤ag digit l 1:=by
  have:=iu (p:=digit) (l:=l) (i:=1) h2 (by
   rw[au,lf,lJ h2]at h3;exact h3)
  rw[←this];exact aW digit _ 2
 rw[an,hh,h4,ah (by simp),ah (by omega)];have:=lY l (ag digit l 1) (bK digit l 1 (by omega));omega
theorem ER (l:List UInt8):an l≤cD l∧aX l≤cD l:=by
 unfold cD;split<;>omega
theorem J2 (h:bG (x++y) br sq= .tok k n b q) (hn:n≤x.length):bG x br sq= .tok k n b q:=by
 have Xm:n=cD (x++y):=by
  unfold bG at h
  repeat' split at h
  all_goals first
   |(cases h;done)
   |(injection h with _ h2;exact h2.symm)
 have lW:=ER (x++y);have e1:=DF (x:=x) (y:=y) (by omega);have e2:=CP (x:=x) (y:=y) (by omega);have e3:cD x=cD (x++y):=by unfold cD;rw[e1,e2]
 have e4:kA x=kA (x++y):=by unfold kA;rw[e1,e2]
 have ht:x.take (cD (x++y))=(x++y).take (cD (x++y)):=(AU (by omega)).symm;have e5:iO x=iO (x++y):=by unfold iO;rw[e1,e2,e3,ht]
 have e6:ct (x++y)=false→ct x=false:=by
  unfold ct;rw[e3];by_cases aA:cD (x++y)<x.length
  ·rw[db aA,dO aA,dO (by simp;omega)];exact id
  ·rw[gj aA];intro _;rfl
 unfold bG at h ⊢
 rw[e3,e4,e5];cases hf:ct (x++y)
 ·rw[hf]at h;rw[e6 hf];exact h
 ·rw[hf]at h;cases h
theorem YB (h:1<x.length):Hk (x++y)=Hk x:=by
 unfold Hk;rw[AU (by omega),dO h,dO (by simp;omega)]
theorem YC (hx:x≠[]) (h:sc (x++y) br sq= .tok k n b q) (hn:n≤x.length):sc x br sq= .tok k n b q:=by
 have hl:=lO hx;by_cases h1:1<x.length
 ·unfold sc at h ⊢
  rw[YB h1,db hl]at h;exact h
 ·have h2:Hk x=false:=by simp[Hk];omega
  cases h3:Hk (x++y)
  ·unfold sc at h ⊢
   rw[h3,db hl]at h;rw[h2];exact h
  ·rw[sc,h3,az rfl]at h;injection h with _ h4
   omega
theorem MJ (hx:x≠[]) (h:aZ (x++y) br sq= .tok k n b q) (hn:n≤x.length):aZ x br sq= .tok k n b q:=by
 have hl:=lO hx;unfold aZ at h ⊢
 rw[db hl]at h;split at h
 ·rename_i h1;rw[az h1];injection h with a1 a2 a3 a4
  rw[a2]at a1;rw[eG (y:=y) (aV _) (by omega),a2,←a1,AU hn,a3,a4]
 ·rename_i h1;rw[ah h1];split at h
  ·rename_i h2;rw[az h2];injection h with a1 a2 a3 a4
   rw[eG (y:=y) (by omega) (by omega),a1,a2,a3,a4]
  ·rename_i h2;rw[ah h2];split at h
   ·rename_i h3;have Xm:an (x++y)≤n:=by
     have lW:=ER (x++y);have:n=cD (x++y):=by
      unfold bG at h
      repeat' split at h
      all_goals first
       |(cases h;done)
       |(injection h with _ h2;exact h2.symm)
     omega
    rw[az]
    ·exact J2 h hn
    ·rcases h3 with h3|⟨h3,h4,h5⟩
     ·exact .inl h3
     ·have h6:=DG (by rw[db hl];exact h3) h4 h5;exact .inr ⟨h3,by omega,by rw[db (by omega)]at h5;exact h5⟩
   ·rename_i h3;rw[ah]
    ·split at h
     ·rename_i h4;rw[az h4];unfold s6 at h ⊢
      split at h
      ·cases h
      ·rename_i m hm;split at h
       ·rename_i h5;injection h with a1 a2 a3 a4
        subst a2;rw[MH hx hm hn];simp only;rw[AU hn]at h5;rw[az h5,a1,a3,a4]
       ·cases h
     ·rename_i h4;rw[ah h4];exact YC hx h hn
    ·rintro(h4|⟨h4,h5,h6⟩)
     ·exact h3 (.inl h4)
     ·exact h3 (.inr ⟨h4,by simp;omega,by rw[db h5];exact h6⟩)
def Tok.move (d:Nat) (t:Tok):Tok:=⟨t.kind,t.text,t.pos+d⟩
theorem uw (d:Nat): ∀(m:Nat) (l:List UInt8) (p:Nat) (br sq:Bool),l.length≤m→cK l (p+d) br sq=((cK l p br sq).1.map (Tok.move d),(cK l p br sq).2.map fun r=>(r.1+d,r.2))
 |m,[],p,br,sq,_=>rfl
 |0,c::r,p,br,sq,h=>by simp at h
 |m+1,c::r,p,br,sq,h=>by
  have bW:c::r≠[]:=by simp
  rw[oE bW,oE bW];generalize hl:c::r=l at*
  have hr:=kd bW;split
  ·rw[show p+d+1=p+1+d by omega];exact uw d m _ _ _ _ (by simp;omega)
  ·split
   ·rw[show p+d+cV l=p+cV l+d by omega];exact uw d m _ _ _ _ (by simp;omega)
   ·cases ht:aZ l br sq with
    |bad e=>rfl
    |tok k n b q=>
     have hn:=iS bW ht;simp only;rw[show p+d+n=p+n+d by omega,uw d m _ _ _ _ (by simp;omega)];rfl
theorem ux (h:aZ l br sq= .bad e):e=110∨e=111∨e=112:=by
 unfold aZ bG s6 sc at h
 repeat' split at h
 all_goals first
  |(cases h;done)
  |(injection h with h;omega)
theorem nG: ∀(m:Nat) (l:List UInt8) (p:Nat) (br sq:Bool) (ts:List Tok) (a e:Nat),l.length≤m→cK l p br sq=(ts,some (a,e))→
  p≤a∧a<p+l.length∧(e=110∨e=111∨e=112)∧cK (l.take (a-p)) p br sq=(ts,none)
 |m,[],p,br,sq,ts,a,e,_,h=>by rw[sy]at h;cases h
 |0,c::r,p,br,sq,ts,a,e,h,_=>by simp at h
 |m+1,c::r,p,br,sq,ts,a,e,hm,h=>by
  have bW:c::r≠[]:=by simp
  generalize hl:c::r=x at*
  have hlen:=lO bW;have cI: ∀m,0<m→x.take m≠[]∧au (x.take m) 0=au x 0:=by
   intro m hm;have h1:0<(x.take m).length:=by simp;omega
   refine⟨Ec.1 h1,?_⟩;have h2:=db (x:=x.take m) (y:=x.drop m) h1;rw[tn]at h2;exact h2.symm
  cases hb:jq (au x 0)
  ·by_cases hc:(au x 0).toNat=35
   ·rw[jE bW hc]at h;have hr:=kd bW;have ih:=nG m _ _ _ _ _ _ _ (by simp;omega) h;simp only[nP]at ih;refine⟨by omega,by omega,ih.2.2.1,?_⟩;have hk:ag eJ x 0<x.length∧cV x=ag eJ x 0+1:=by
     have Pp:cV x<x.length:=by omega
     unfold cV at Pp ⊢
     omega
    obtain⟨h1,h2⟩:=cI (a-p) (by omega);rw[jE h1 (by rw[h2];exact hc)];have hs:ag eJ (x.take (a-p)) 0=ag eJ x 0:=by
     have:=eG (p:=eJ) (x:=x.take (a-p)) (y:=x.drop (a-p)) (i:=0) (aV _) (by rw[tn];simp;omega);rw[tn]at this;exact this
    have Sh:cV (x.take (a-p))=cV x:=by
     rw[hk.2];unfold cV;rw[hs];simp;omega
    rw[Sh,List.drop_take,show a-p-cV x=a-(p+cV x)by omega];exact ih.2.2.2
   ·cases ht:aZ x br sq with
    |bad e'=>
     rw[sA bW hb hc ht]at h;injection h with h1 h2
     injection h2 with h2
     injection h2 with h2 h3
     subst h1 h2 h3;refine⟨aS _,by omega,ux ht,?_⟩;rw[Nat.sub_self,qP,sy]
    |tok k n b q=>
     have hn:=iS bW ht;rw[oO bW hb hc ht]at h;injection h with h1 h2
     subst h1;have ih:=nG m (x.drop n) (p+n) b q (cK (x.drop n) (p+n) b q).1 a e (by simp;omega) (by rw[←h2]);simp only[nP]at ih;refine⟨by omega,by omega,ih.2.2.1,?_⟩;obtain⟨h3,h4⟩:=cI (a-p) (by omega);have Sm:aZ (x.take (a-p)) br sq= .tok k n b q:=by
      refine MJ (y:=x.drop (a-p)) h3 ?_ (by simp;omega);rw[tn];exact ht
     rw[oO h3 (by rw[h4];exact hb) (by rw[h4];exact hc) Sm,List.take_take,List.drop_take,show min n (a-p)=n by omega,show a-p-n=a-(p+n)by omega,ih.2.2.2]
  ·rw[cN bW hb]at h;have ih:=nG m _ _ _ _ _ _ _ (by simp;omega) h;simp only[nP]at ih;refine⟨by omega,by omega,ih.2.2.1,?_⟩;obtain⟨h1,h2⟩:=cI (a-p) (by omega);rw[cN h1 (by rw[h2];exact hb),List.drop_take,show a-p-1=a-(p+1)by omega];exact ih.2.2.2
def Blank (g:List UInt8):Prop:= ∀(y:List UInt8) (p:Nat) (br sq:Bool),cK (g++y) p br sq=cK y (p+g.length) br sq
theorem Blank.nil:Blank []:=fun _ _ _ _=>rfl
theorem Blank.cons (hc:jq c=true) (h:Blank g):Blank (c::g):=by
 intro y p br sq;rw[oh,cN (l:=c::(g++y)) (by simp) (show jq c=true from hc)];show cK (g++y) (p+1) br sq=_;rw[h,ek,show p+1+g.length=p+(g.length+1)by omega]
theorem DH {c rest:Code} (l:Nat) (J:Act→World→Prop) (μ:Act→World→Nat) (hf:findLabel c l=some (Code.seq .skip rest))
  (pass: ∀a w,J a w→rest.wp P (Exit.jump l (fun a' w'=>J a' w'∧μ a' w'<μ a w) Q) a w)
  (first: ∀Q',(∀a w,J a w→rest.wp P Q' a w)→(∀e a w,(∀l',e≠.goto l')→Q e a w→Q' e a w)→c.wp P Q' a w):(Code.scope c).wp P Q a w:=by
 refine wp_scope_jumps l J μ hf (first (Exit.jump l J Q) (fun a w h=>?_) ?_) fun a w h=>wp_seq (wp_skip (pass a w h))
 ·refine wp_mono (pass a w h) fun e a' w' hq=>?_
  cases e with
  |goto l'=>exact⟨hq.1,hq.2.1⟩
  |normal=>exact hq
  |exit id=>exact hq
  |ret=>exact hq
  |panic ch=>exact hq
  |outgrown=>exact hq
 ·intro e a w he hq;cases e with
  |goto l'=>exact absurd rfl (he l')
  |normal=>exact hq
  |exit id=>exact hq
  |ret=>exact hq
  |panic ch=>exact hq
  |outgrown=>exact hq
theorem kU (h:qH w p s at' br sq v):nf w p=at':=by
 unfold nf;have:w.cell? ⟨p,1,none⟩=some (.int .i64 (at':Int)):=by rw[h.cell];rfl
 rw[this];simp
structure Ep (T:Nat→World→Prop) (w:World) (p:Nat) (s:ByteArray) (R:List Tok×Option (Nat×Nat)) (at':Nat) (br sq:Bool) (v:Value) (ts:List Tok) (w':World):Prop where
 le:at'≤s.size
 z:qH w' p s at' br sq v
 own:w'.ownsRow w.heap.size 139 3 v ts.length (aO ts)
 below:Below w.heap.size w w'
 FE:T w.heap.size w'
 NS:ts.length≤at'
 out:R=(ts++(cK (s.data.toList.drop at') at' br sq).1,(cK (s.data.toList.drop at') at' br sq).2)
def eU (l:List UInt8):List Tok×Option (Nat×Nat):=if 33554432<l.length then([],some (0,1))else cK l 0 false false
def gI (r:List Tok×Option (Nat×Nat)):List Tok:=match r.2 with|none=>r.1|some _=>[]
def yI (r:List Tok×Option (Nat×Nat)):Nat:=match r.2 with|none=>0|some x=>x.1
def rr (r:List Tok×Option (Nat×Nat)):Nat:=match r.2 with|none=>0|some x=>x.2
def fr (w:World) (r:List Tok×Option (Nat×Nat)) (e:Ending) (w':World):Prop:=
 ∃v,e= .returned (.tuple #[v,.int .i64 (yI r:Nat),.int .i64 (rr r:Nat)])∧w'.ownsRow w.heap.size 139 3 v (gI r).length (aO (gI r))∧Below w.heap.size w w'
theorem fr.bad {r:List Tok×Option (Nat×Nat)} {a:Nat} (h:r.2=some (a,k)) (hb:Below w.heap.size w w'):fr w r (.returned (.tuple #[.slice none 0 0,.int .i64 (a:Int),.int .i64 (k:Int)])) w':=by
 refine⟨.slice none 0 0,?_,?_,hb⟩
 ·rw[yI,rr,h]
 ·rw[gI,h];exact sZ _ _ _ _
theorem fr.aeO {r:List Tok×Option (Nat×Nat)} (h:r.2=none) (ho:w'.ownsRow w.heap.size 139 3 v r.1.length (aO r.1)) (hb:Below w.heap.size w w'):fr w r (.returned (.tuple #[v,.int .i64 0,.int .i64 0])) w':=by
 refine⟨v,?_,?_,hb⟩
 ·rw[yI,rr,h];rfl
 ·rw[gI,h];exact ho
theorem wP: ∀(l:List UInt8),Lib.indexByte l 10=if ag eJ l 0<l.length then(ag eJ l 0:Int)else-1
 |[]=>by simp[Lib.indexByte]
 |c::r=>by
  have ih:=wP r;rw[Lib.indexByte];by_cases h:c=10
  ·subst h;have:ag eJ (10::r) 0=0:=by simp[ag,qN,eJ]
   rw[this,az (by rfl),az (by simp)];rfl
  ·have hn:eJ c=true:=by
    simp only[eJ,jo,ne_eq];intro e;exact h ((yC (n:=10) (by omega)).2 e)
   have h1:ag eJ (c::r) 0=ag eJ r 0+1:=by simp[ag,qN,hn]
   have hb:(c==10)=false:=by simp[h]
   have hl:(c::r).length=r.length+1:=rfl;rw[hb,h1,hl];by_cases h2:ag eJ r 0<r.length
   ·have h3:ag eJ r 0+1<r.length+1:=by omega
    have:((ag eJ r 0:Int)== -1)=false:=by
     have h4: ¬(ag eJ r 0:Int)= -1:=by omega
     exact bN.2 h4
    rw[az h2]at ih;rw[ih,this,az h3];simp
   ·have h3: ¬ag eJ r 0+1<r.length+1:=by omega
    rw[ah h2]at ih;rw[ih,ah h3];simp
theorem Ep.move {ok:List UInt8→Prop} (hT:pv ok T) {w w':World} {p:Nat} {s:ByteArray} {R:List Tok×Option (Nat×Nat)} {at' n:Nat} {br sq:Bool} {v:Value} {ts:List Tok} (h:Ep T w p s R at' br sq v ts w')
  (hp:w.heap.size≤p) (hn:at'+n≤s.size) (he:cK (s.data.toList.drop at') at' br sq=cK (s.data.toList.drop (at'+n)) (at'+n) br sq) (y:Int) (hy:y=((at'+n:Nat):Int)):
  Ep T w p s R (at'+n) br sq v ts (w'.setCell ⟨p,1,none⟩ (.int .i64 y)):=by
 subst hy;have hb:=(aU w.heap.size w').setCell (p:=⟨p,1,none⟩) hp (.int .i64 ((at'+n:Nat):Int));refine⟨hn,?_,aG h.own h.z (by decide) _,h.below.trans hb,hT.fQ h.FE hb,by have:=h.NS;omega,?_⟩
 ·have:=aM.dz h.z 1 (.int .i64 ((at'+n:Nat):Int));simpa [qH]using this
 ·rw[h.out,he]
def rf (T:Nat→World→Prop) (w:World) (p:Nat) (s:ByteArray) (R:List Tok×Option (Nat×Nat)) (a':Act) (w':World):Prop:=
 ∃(at':Nat) (br sq:Bool) (v:Value) (ts:List Tok) (u:Nat→Value),a'={tmps:=#[.string s,undef,.slice none 0 0,.int .i64 0,.int .i64 0,.pointer (some ⟨p,0,none⟩),u 6,u 7,u 8,u 9,u 10,u 11,u 12,u 13,u 14,u 15,u 16,u 17,u 18,u 19,u 20,u 21,u 22,u 23,u 24,u 25,u 26,u 27,u 28,u 29,u 30,u 31,u 32,u 33,u 34,u 35,u 36,u 37,u 38,u 39,u 40,u 41,u 42,u 43,u 44,u 45,u 46,u 47,u 48,u 49,u 50,u 51,u 52,u 53,u 54,u 55,u 56,u 57,u 58,u 59,u 60,u 61,u 62,u 63,u 64,u 65,u 66,u 67,u 68,u 69,u 70,u 71,u 72,u 73,u 74,u 75,u 76],defers:=[]}∧Ep T w p s R at' br sq v ts w'∧s.size≤33554432
theorem rf.lay {R:List Tok×Option (Nat×Nat)} {ts:List Tok} 
  (hf:a'={tmps:=#[.string s,undef,.slice none 0 0,.int .i64 0,.int .i64 0,.pointer (some ⟨p,0,none⟩),a'.tmps.getD 6 undef,a'.tmps.getD 7 undef,a'.tmps.getD 8 undef,a'.tmps.getD 9 undef,a'.tmps.getD 10 undef,a'.tmps.getD 11 undef,a'.tmps.getD 12 undef,a'.tmps.getD 13 undef,a'.tmps.getD 14 undef,a'.tmps.getD 15 undef,a'.tmps.getD 16 undef,a'.tmps.getD 17 undef,a'.tmps.getD 18 undef,a'.tmps.getD 19 undef,a'.tmps.getD 20 undef,a'.tmps.getD 21 undef,a'.tmps.getD 22 undef,a'.tmps.getD 23 undef,a'.tmps.getD 24 undef,a'.tmps.getD 25 undef,a'.tmps.getD 26 undef,a'.tmps.getD 27 undef,a'.tmps.getD 28 undef,a'.tmps.getD 29 undef,a'.tmps.getD 30 undef,a'.tmps.getD 31 undef,a'.tmps.getD 32 undef,a'.tmps.getD 33 undef,a'.tmps.getD 34 undef,a'.tmps.getD 35 undef,a'.tmps.getD 36 undef,a'.tmps.getD 37 undef,a'.tmps.getD 38 undef,a'.tmps.getD 39 undef,a'.tmps.getD 40 undef,a'.tmps.getD 41 undef,a'.tmps.getD 42 undef,a'.tmps.getD 43 undef,a'.tmps.getD 44 undef,a'.tmps.getD 45 undef,a'.tmps.getD 46 undef,a'.tmps.getD 47 undef,a'.tmps.getD 48 undef,a'.tmps.getD 49 undef,a'.tmps.getD 50 undef,a'.tmps.getD 51 undef,a'.tmps.getD 52 undef,a'.tmps.getD 53 undef,a'.tmps.getD 54 undef,a'.tmps.getD 55 undef,a'.tmps.getD 56 undef,a'.tmps.getD 57 undef,a'.tmps.getD 58 undef,a'.tmps.getD 59 undef,a'.tmps.getD 60 undef,a'.tmps.getD 61 undef,a'.tmps.getD 62 undef,a'.tmps.getD 63 undef,a'.tmps.getD 64 undef,a'.tmps.getD 65 undef,a'.tmps.getD 66 undef,a'.tmps.getD 67 undef,a'.tmps.getD 68 undef,a'.tmps.getD 69 undef,a'.tmps.getD 70 undef,a'.tmps.getD 71 undef,a'.tmps.getD 72 undef,a'.tmps.getD 73 undef,a'.tmps.getD 74 undef,a'.tmps.getD 75 undef,a'.tmps.getD 76 undef],defers:=[]}) (h:Ep T w p s R at' br sq v ts w') (hs:s.size≤33554432):rf T w p s R a' w':=⟨at',br,sq,v,ts,fun i=>a'.tmps.getD i undef,hf,h,hs⟩
theorem UP {ok:List UInt8→Prop} (hT:pv ok T) (w:World) (s:ByteArray) (hs:s.size≤281474976710) (cH: ∀k,Tn ok (s.data.toList.drop k)) (kp:T w.heap.size w):
  Calls prog 116 #[.string s] w (fr w (eU s.data.toList)):=by
 obtain⟨p,hp⟩: ∃p,p=w.heap.size:=⟨_,rfl⟩;obtain⟨R,hR⟩: ∃R,R=eU s.data.toList:=⟨_,rfl⟩;rw[←hR];have gN:w.heap.size≤p:=by omega
 have HP:=ae hp;have FF:=ae hR;clear hp hR;go_enter func116,ntmps116;go_wp2_with fail;refine DH 0 (rf T w p s R) (fun _ w'=>s.size-nf w' p) rfl ?_ ?_
 ·rintro a' w' ⟨at',br,sq,v,ts,u,rfl,hI,iI⟩;have c1:w'.cell? ⟨p,1,none⟩=some (.int .i64 (at':Int)):=by rw[hI.z.cell];rfl
  have f1:w'.frozen? ⟨p,1,none⟩=false:=hI.z.frozen 1;have hle:=hI.le;have hmu:nf w' p=at':=kU hI.z;rw[hmu];cases he:((at':Int)==(s.size:Int))
  ·have cI:at'<s.size:=by
    have: ¬(at':Int)=s.size:=by simpa using he
    omega
   have Pu:at'<s.data.toList.length:=by rw[af];exact cI
   have bW:s.data.toList.drop at'≠[]:=by
    intro h;have:=cn List.length h;simp at this;omega
   have ha0:au (s.data.toList.drop at') 0=s[at']:=by rw[gq,iz,ay cI]
   have ar2:IntKind.i64.wrap ((at':Int)+1)=((at'+1:Nat):Int):=by rw[ou];omega
   have q1:((at':Int)≤(s.size:Int))=True:=by simp;omega
   have ZG: ∀n,(s.data.toList.drop at').drop n=s.data.toList.drop (at'+n):=fun n=>by rw[yz]
   have HI:=ae hI;have Hv:=ae bW;have HA:=ae ha0;have Pv:=ae ZG;clear hI bW ha0 ZG;cases e9:((s[at'].toNat:Int)==9)
   ·cases Lt:((s[at'].toNat:Int)==10)
    ·cases e13:((s[at'].toNat:Int)==13)
     ·cases e32:((s[at'].toNat:Int)==32)
      ·cases e35:((s[at'].toNat:Int)==35)
       ·have uQ:jq (au (s.data.toList.drop at') 0)=false:=by
         rw[HA.out];have h9:=kE e9;have Hg:=kE Lt;have h13:=kE e13;have h32:=kE e32;simp[jq];omega
        have aeP:(au (s.data.toList.drop at') 0).toNat≠35:=by rw[HA.out];have:=kE e35;omega
        have vf:ts.length≤1099511627776:=by have:=HI.out.NS;omega
        have NT:=ae uQ;have aeQ:=ae aeP;clear uQ aeP;go_wp2_with fail;refine(Qv hT w' w.heap.size p s at' br sq v ts hs cI (cH at') HI.out.FE HI.out.z HI.out.own vf gN).mono ?_;intro e w5 iy;cases hr:aZ (s.data.toList.drop at') br sq with
        |bad k=>
         rw[hr]at iy;obtain⟨rfl,v5,RW,ZH,lj⟩:=iy;have hk:=ux hr;have lK:((k:Int) != 0)=true:=by simp;omega
         have mW:=ae (HI.out.below.trans lj);have g1:w5.cell? ⟨p,1,none⟩=some (.int .i64 (at':Int)):=by rw[RW.cell];rfl
         have ho:=HI.out.out;rw[sA Hv.out NT.out aeQ.out hr]at ho;have yf:=ae (show R.2=some (at',k)by rw[ho]);clear lj ZH RW ho hr hk;go_wp2_with fail;go_quiet (fail);go_wp2_with fail
         try simp only[Exit.jump]
         go_ret3
         exact fr.bad yf.out (bZ mW.out _)
        |tok k n b q=>
         rw[hr]at iy;obtain⟨rfl,v5,RW,ZH,lj⟩:=iy;have hn:=iS Hv.out hr;simp only[nP,af]at hn;have ho:=HI.out.out;rw[oO Hv.out NT.out aeQ.out hr,Pv.out]at ho;have hI5:Ep T w p s R (at'+n) b q v5 (ts++[⟨k,(s.data.toList.drop at').take n,at'⟩]) w5:=by
          refine⟨by omega,RW,?_,HI.out.below.trans lj,hT.fQ HI.out.FE lj,?_,?_⟩
          ·exact ZH
          ·have:=HI.out.NS;simp;omega
          ·rw[ho];simp
         have HI5:=ae hI5;clear RW ZH lj ho hr hI5;go_wp2_with fail;go_wp2;go_step3;refine⟨rfl,rf.lay (by rfl) (HI5.out) iI,?_⟩;rw[kU HI5.out.z];omega
       ·obtain⟨t,ht⟩: ∃t,t=s.extract at' s.size:=⟨_,rfl⟩;have qG:t.data.toList=s.data.toList.drop at':=by rw[ht,fX]
        have KV:t.size=s.size-at':=by rw[ht];simp
        have ajO:(au (s.data.toList.drop at') 0).toNat=35:=by rw[HA.out];have:=jn e35;omega
        have ZI:=wP t.data.toList;have hrl:=kd Hv.out;have hrk:cV (s.data.toList.drop at')=min (ag eJ t.data.toList 0+1) t.size:=by rw[cV,←qG,af]
        have aeI:=bK eJ t.data.toList 0 (aV _);rw[af]at ZI aeI;have HRM:=ae (jE Hv.out ajO at' br sq);rw[Pv.out]at HRM;have Dk:=ae ht;clear ht qG;by_cases hk:ag eJ t.data.toList 0<t.size
        ·rw[az hk]at ZI;have SX:cV (s.data.toList.drop at')=ag eJ t.data.toList 0+1:=by omega
         rw[SX]at HRM;clear hrk hrl SX;generalize ag eJ t.data.toList 0=k at*
         have a1:IntKind.i64.wrap ((k:Int)+1)=(k:Int)+1:=by rw[ou];omega
         have a2:IntKind.i64.wrap ((at':Int)+((k:Int)+1))=((at'+(k+1):Nat):Int):=by rw[ou];omega
         have a3:(0≤(k:Int))=True:=by simp
         go_wp2_with (first|(go_at_call 133;rw[←Dk.out];refine(Tryz.strings_IndexByte t 10 _).mono ?_;rintro e w3 ⟨rfl,rfl⟩;simp only[show (10:Int).toNat.toUInt8=10 from rfl];rw[ZI]));go_step3;refine⟨rfl,rf.lay (by rfl) (HI.out.move hT gN (n:=k+1) (by omega) HRM.out _ (by omega)) iI,?_⟩;rw[kU (HI.out.move hT gN (n:=k+1) (by omega) HRM.out _ (by omega)).z];omega
        ·rw[ah hk]at ZI;have SX:cV (s.data.toList.drop at')=t.size:=by omega
         rw[SX]at HRM;clear hrk hrl SX;go_wp2_with (first|(go_at_call 133;rw[←Dk.out];refine(Tryz.strings_IndexByte t 10 _).mono ?_;rintro e w3 ⟨rfl,rfl⟩;simp only[show (10:Int).toNat.toUInt8=10 from rfl];rw[ZI]));go_step3;refine⟨rfl,rf.lay (by rfl) (HI.out.move hT gN (n:=t.size) (by omega) HRM.out _ (by omega)) iI,?_⟩;rw[kU (HI.out.move hT gN (n:=t.size) (by omega) HRM.out _ (by omega)).z];omega
      ·go_wp2_with fail;go_wp2;go_step3;have oe:jq (au (s.data.toList.drop at') 0)=true:=by rw[HA.out];have:=jn e32;simp[jq];omega
       refine⟨rfl,rf.lay (by rfl) (HI.out.move hT gN (n:=1) (by omega) (by rw[cN Hv.out oe,Pv.out]) _ (by omega)) iI,?_⟩;rw[kU (HI.out.move hT gN (n:=1) (by omega) (by rw[cN Hv.out oe,Pv.out]) _ (by omega)).z];omega
     ·go_wp2_with fail;go_wp2;go_step3;have oe:jq (au (s.data.toList.drop at') 0)=true:=by rw[HA.out];have:=jn e13;simp[jq];omega
      refine⟨rfl,rf.lay (by rfl) (HI.out.move hT gN (n:=1) (by omega) (by rw[cN Hv.out oe,Pv.out]) _ (by omega)) iI,?_⟩;rw[kU (HI.out.move hT gN (n:=1) (by omega) (by rw[cN Hv.out oe,Pv.out]) _ (by omega)).z];omega
    ·go_wp2_with fail;go_wp2;go_step3;have oe:jq (au (s.data.toList.drop at') 0)=true:=by rw[HA.out];have:=jn Lt;simp[jq];omega
     refine⟨rfl,rf.lay (by rfl) (HI.out.move hT gN (n:=1) (by omega) (by rw[cN Hv.out oe,Pv.out]) _ (by omega)) iI,?_⟩;rw[kU (HI.out.move hT gN (n:=1) (by omega) (by rw[cN Hv.out oe,Pv.out]) _ (by omega)).z];omega
   ·go_wp2_with fail;go_wp2;go_step3;have oe:jq (au (s.data.toList.drop at') 0)=true:=by rw[HA.out];have:=jn e9;simp[jq];omega
    refine⟨rfl,rf.lay (by rfl) (HI.out.move hT gN (n:=1) (by omega) (by rw[cN Hv.out oe,Pv.out]) _ (by omega)) iI,?_⟩;rw[kU (HI.out.move hT gN (n:=1) (by omega) (by rw[cN Hv.out oe,Pv.out]) _ (by omega)).z];omega
  ·have cI:at'=s.size:=by
    have:(at':Int)=s.size:=by simpa using he
    omega
   have c4:w'.cell? ⟨p,4,none⟩=some v:=by rw[hI.z.cell];rfl
   have HI:=ae hI;clear hI;go_wp2_with fail
   try simp only[Exit.jump]
   go_ret3
   have ho:=HI.out.out;rw[cI,Oc (by rw[af];omega),sy,nR]at ho;have h2:R.2=none:=by rw[ho]
   have h1:R.1=ts:=by rw[ho]
   exact fr.aeO h2 (by rw[h1];exact HI.out.own) HI.out.below
 ·intro Q' hpass hQ';by_cases afX:(33554432:Int)<(s.size:Int)
  ·go_wp2_with fail;refine hQ' _ _ _ (fun _=>by simp) ?_;go_ret3;have h2:R.2=some (0,1):=by rw[FF.out,eU,az (by rw[af];omega)]
   exact fr.bad h2 (aU _ _)
  ·go_wp2_with fail;go_wp2;go_step3
   try simp only[Exit.then]
   rename_i K hK;refine hK _ _ ?_;obtain rfl:=HP.out;have hb:=(aU w.heap.size w).alloc (aS _) (.cells #[.string s,.int .i64 0,.bool false,.bool false,.slice none 0 0] 191);refine hpass _ _ (rf.lay (at':=0) (br:=false) (sq:=false) (v:=.slice none 0 0) (ts:=[]) (by rfl) ⟨aV _,aM.new w _ _,sZ _ _ _ _,hb,hT.fQ kp hb,aV _,?_⟩ (by omega));rw[FF.out,eU,ah (by rw[af];omega)];rfl
def LH (l:List UInt8):List Tok×Option (Nat×Nat)→Nat
 |([t],none)=>if t.text=l then t.kind else 0
 |_=>0
def fy (s:ByteArray):Nat:=LH s.data.toList (eU s.data.toList)
def dA (s:ByteArray):Bool:=s.data.toList.isEmpty
def fz (s:ByteArray):Bool:=fy s==4
def ie (s:ByteArray):Bool:=fy s==3||fy s==4
def kQ (s:ByteArray) (pG:Bool):Bool:=(fy s==1||(pG&&fy s==2))&& !word s.data.toList
def bH (l:List ByteArray):Bool:=l.all fun s=>dM s.data.toList
def cL (m:PM):Bool:=dM m.name.data.toList&&decide (1≤m.op)&&decide (m.op≤4)&&valid m.value.data.toList
def iC (s:ByteArray):ByteArray:=if 1<s.size∧(au s.data.toList 0).toNat=45 then s.extract 1 s.size else s
def mV (l:List UInt8) (s:ByteArray):Bool:=s.data.toList==l
def ix (off tim:ByteArray):Bool:=(dA (iC off)||fz (iC off))&&(dA tim||mV [115,116,97,114,116] tim||mV [101,110,100] tim||fy tim==3)
def ES (r:PR):Bool:=
 if r.given=false then !r.on&&r.mls.isEmpty&&decide (r.card=0)&&r.inc.isEmpty
 else decide (0≤r.card)&&decide (r.card≤2)&& !(decide (r.card=0)&& !r.inc.isEmpty)&&bH r.mls&&bH r.inc
def mD:List (List UInt8):=[[111,114],[97,110,100],[117,110,108,101,115,115],[61,61],[33,61],[60],[62],[60,61],[62,61],[43],[45],[42],[47],[37],[94]]
def mE:List (List UInt8):=[[97,118,103],[98,111,116,116,111,109,107],[99,111,117,110,116],[99,111,117,110,116,95,118,97,108,117,101,115],[103,114,111,117,112],[109,97,120],[109,105,110],[113,117,97,110,116,105,108,101],[115,116,100,100,101,118],[115,116,100,118,97,114],[115,117,109],[116,111,112,107]]
def LI (r:PR):Bool:=dA r.op
def ru (r:PR):Bool:=dA r.text
def FV (r:PR):Bool:=r.ms.isEmpty
def yJ (r:PR):Bool:=dA r.bU
def pH (r:PR):Bool:=dA r.step
def pI (r:PR):Bool:=dA r.off&&dA r.tim
def fC (r:PR):Bool:= !r.given&& !r.on&&r.mls.isEmpty&&decide (r.card=0)&&r.inc.isEmpty
def jB (r:PR):Bool:=r.labels.isEmpty
def du (k n:Int):Bool:=
 if k=1∨k=2∨k=3 then decide (n=0)else if k=4∨k=5∨k=6 then decide (n=1)else if k=7 then decide (n=2)else if k=8 then decide (0≤n)else if k=9 then decide (n=1)||decide (n=2)else false
def lP (r:PR):Bool:=
 if r.kind=1∨r.kind=2 then LI r&&FV r&&yJ r&&pH r&&pI r&& !r.bool&&fC r&& !r.without&&jB r
 else if r.kind=3 then LI r&&yJ r&&pH r&& !r.bool&&fC r&& !r.without&&jB r
 else if r.kind=4 then LI r&&ru r&&FV r&&pH r&&pI r&& !r.bool&&fC r&& !r.without&&jB r
 else if r.kind=5 then LI r&&ru r&&FV r&& !r.bool&&fC r&& !r.without&&jB r
 else if r.kind=6∨r.kind=8 then ru r&&FV r&&yJ r&&pH r&&pI r&& !r.bool&&fC r&& !r.without&&jB r
 else if r.kind=7 then ru r&&FV r&&yJ r&&pH r&&pI r&& !r.without&&jB r
 else ru r&&FV r&&yJ r&&pH r&&pI r&& !r.bool&&fC r
def aC (r:PR):Bool:=
 du r.kind r.kids&&lP r&&
 (if r.kind=1 then ie r.text
 else if r.kind=2 then valid r.text.data.toList
 else if r.kind=3 then(dA r.text||kQ r.text true)&&ix r.off r.tim&&r.ms.all cL
 else if r.kind=4 then fz r.bU
 else if r.kind=5 then fz r.bU&&(dA r.step||fz r.step)&&ix r.off r.tim
 else if r.kind=6 then mV [43] r.op||mV [45] r.op
 else if r.kind=7 then mD.contains r.op.data.toList&&ES r
 else if r.kind=8 then kQ r.op false
 else mE.contains r.op.data.toList&&bH r.labels)
end Go.Proofs.YtcdoilkjmjbgmaaGreatDoor
namespace Go.Proofs.YtcdoilkjmjbgmaaGreatDoor
variable {n c k deep:Nat} {rs x y:List PR} {r:PR} {s:List Nat}
def nk (r:PR):Nat:=r.kids.toNat
def trees:Nat→List PR→Bool
 |n,[]=>n==0
 |0,_::_=>false
 |n+1,r::rs=>trees (nk r+n) rs
theorem jZ:trees n []=true↔n=0:=by cases n<;>simp[trees]
theorem Cn:trees 0 rs=true↔rs=[]:=by cases rs<;>simp[trees]
theorem MK:trees (n+1) (r::rs)=trees (nk r+n) rs:=rfl
theorem yX : ∀ (rs : List PR) (a b : Nat), trees (a + b) rs = true → ∃ x y, rs = x ++ y ∧ trees a x = true ∧ trees b y = true
  | [], a, b, h => by
    have:=jZ.1 h
    exact⟨[],[],rfl,jZ.2 (by omega),jZ.2 (by omega)⟩
  | r :: rs, 0, b, h => ⟨[], r :: rs, rfl, rfl, by rw [mr] at h; exact h⟩
  | r :: rs, a + 1, b, h => by
    rw[show a+1+b=(a+b)+1 by omega,MK,←A6]at h
    obtain⟨x,y,h1,h2,h3⟩:=yX rs (nk r+a) b h
    exact⟨r::x,y,by rw[h1];rfl,h2,h3⟩
theorem Co : ∀ (x y : List PR) (a b : Nat), trees a x = true → trees b y = true → trees (a + b) (x ++ y) = true
  | [], y, a, b, h, k => by
    have:=jZ.1 h
    subst this
    rw[mr];exact k
  | r :: x, y, 0, b, h, k => by simp [trees] at h
  | r :: x, y, a + 1, b, h, k => by
    rw[show a+1+b=(a+b)+1 by omega]
    show trees (nk r+(a+b)) (x++y)=true
    rw[←A6]
    exact Co x y (nk r+a) b h k
theorem sE (h:trees (n+1) rs=true): ∃r t,rs=r::t∧trees (nk r+n) t=true:=by
 cases rs with
 |nil=>simp[trees]at h
 |cons r t=>exact⟨r,t,rfl,h⟩
theorem BG: ∀(rs:List PR) (n:Nat),trees n rs=true→n≤rs.length
 |[],n,h=>by have:=jZ.1 h;omega
 |r::rs,0,h=>aV _
 |r::rs,n+1,h=>by
  have:=BG rs (nk r+n) h;simp only[ek];omega
def aT:List Nat→List PR→List Nat
 |d::ds,r::rs=>d::aT (List.replicate (nk r) (d+1)++ds) rs
 |_,_=>[]
theorem jF (ds:List Nat):aT ds []=[]:=by cases ds<;>rfl
theorem wQ : ∀ (x y : List PR) (ds es : List Nat), trees ds.length x = true → aT (ds ++ es) (x ++ y) = aT ds x ++ aT es y
  | [], y, ds, es, h => by
    have:=jZ.1 h
    have:ds=[]:=o6.1 this
    subst this;rfl
  | r :: x, y, [], es, h => by simp [trees] at h
  | r :: x, y, a :: ds, es, h => by
    rw[oh,oh,aT,aT,oh,←sY]
    congr 1
    refine wQ x y _ es ?_
    rw[iF,vq]
    exact h
theorem lS: ∀(rs:List PR) (ds:List Nat),trees ds.length rs=true→(aT ds rs).length=rs.length
 |[],ds,_=>by rw[jF];rfl
 |r::rs,[],h=>by simp[trees]at h
 |r::rs,d::ds,h=>by
  rw[aT,ek,ek,lS rs _ (by rw[iF,vq];exact h)]
def mw (l:List Nat):Nat:=l.foldl max 0
theorem foldl_max (l:List Nat): ∀a b:Nat,l.foldl max (max a b)=max a (l.foldl max b):=by
 induction l with
 |nil=>intro a b;rfl
 |cons x l ih=>intro a b;rw[List.foldl_cons,List.foldl_cons,Nat.max_assoc,ih]
theorem oQ (a:Nat) (l:List Nat):mw (a::l)=max a (mw l):=by
 rw[mw,List.foldl_cons,show max 0 a=max a 0 by omega,foldl_max];rfl
theorem Jq (a b:List Nat):mw (a++b)=max (mw a) (mw b):=by
 induction a with
 |nil=>simp[mw]
 |cons x a ih=>rw[oh,oQ,oQ,ih,Nat.max_assoc]
def iD (rs:List PR):Nat:=mw (aT [1] rs)
def ig:List PR→Bool
 |[]=>false
 |q::_=>decide (q.kind=3)
def dc:List PR→Bool
 |[]=>true
 |r::rs=>(!decide (r.kind=4)||ig rs)&&dc rs
def dB (rs:List PR):Bool:=trees 1 rs&&rs.all aC&&dc rs
def cE (rs:List PR):Nat:=if dB rs=true then(if 128<iD rs then 3 else 0)else 120
structure zP where
 name:ByteArray
 ms:List PM
 off:ByteArray
 tim:ByteArray
def lx (rs:List PR):List zP:=(rs.filter fun r=>decide (r.kind=3)).map fun r=>⟨r.text,r.ms,r.off,r.tim⟩
def Bh:List Nat→List Nat
 |[]=>[]
 |c::s=>List.replicate (c-1) (s.length+2)++Bh s
def vg:List Nat→List Nat
 |[]=>[]
 |c::s=>List.replicate c (s.length+2)++Bh s
def norm:List Nat→List Nat
 |0::c::s=>norm ((c-1)::s)
 |[0]=>[]
 |s=>s
 termination_by s=>s.length
theorem jb (c:Nat) (s:List Nat):norm (0::c::s)=norm ((c-1)::s):=by rw[norm]
theorem kV:norm [0]=[]:=by rw[norm]
theorem fL:norm []=[]:=by rw[norm]<;>simp
theorem kW (s:List Nat) (h:0<c):norm (c::s)=c::s:=by
 rw[norm]
 ·rintro c' s' h';injection h' with h1 _
  omega
 ·intro h';injection h' with h1 _
  omega
theorem ET: ∀s:List Nat,vg (norm s)=vg s
 |[]=>by rw[fL]
 |[0]=>by rw[kV];rfl
 |0::c::s=>by rw[jb,ET ((c-1)::s)];simp[vg,Bh]
 |(c+1)::s=>by rw[kW s (by omega)]
 termination_by s=>s.length
theorem EU : ∀ s : List Nat, (norm s).length ≤ s.length
  | [] => by rw [fL]; exact aS _
  | [0] => by rw [kV]; simp
  | 0 :: c :: s => by
    rw[jb]
    have:=EU ((c-1)::s)
    simp only[ek]at this ⊢;omega
  | (c + 1) :: s => by rw [kW s (by omega)]; exact aS _
  termination_by s=>s.length
theorem dU (hk:k<rs.length):rs=rs.take k++rs[k]::rs.drop (k+1):=by
 rw[←o5 hk,tn]
def Rest (s:List Nat):Prop:= ∀c t,s=c::t→0<c
theorem EV: ∀s:List Nat,Rest (norm s)
 |[]=>by rw[fL];intro c t h;cases h
 |[0]=>by rw[kV];intro c t h;cases h
 |0::c::s=>by rw[jb];exact EV ((c-1)::s)
 |(c+1)::s=>by rw[kW s (by omega)];intro c' t h;injection h with h1 _;omega
 termination_by s=>s.length
theorem sF (h:Rest s) (hn:s≠[]):vg s=(s.length+1)::Bh s:=by
 cases s with
 |nil=>exact absurd rfl hn
 |cons c t=>
  have:=h c t rfl;obtain⟨d,rfl⟩: ∃d,c=d+1:=⟨c-1,by omega⟩;simp[vg,Bh,List.replicate_succ]
theorem UQ (h:Rest s):vg s=[]↔s=[]:=by
 constructor
 ·intro h1;cases s with
  |nil=>rfl
  |cons c t=>rw[sF h (by simp)]at h1;cases h1
 ·rintro rfl;rfl
structure fp (x:List PR) (s:List Nat) (deep:Nat):Prop where
 rest:Rest s
 κ:deep=mw (aT [1] x)
 more:x≠[]→ ∀y,trees 1 (x++y)=trees (vg s).length y∧aT [1] (x++y)=aT [1] x++aT (vg s) y
 none_:x=[]→s=[]
theorem fp.start:fp [] [] 0:=⟨fun c t h=>(by cases h),rfl,fun h=>absurd rfl h,fun _=>rfl⟩
theorem Qx (l:List Nat) (a:Nat):mw (l++[a])=max (mw l) a:=by
 rw[Jq,show mw [a]=a by rw[oQ];simp[mw]]
theorem fp.step (h:fp x s deep) (r:PR) (hs:x=[]∨s≠[]):
  fp (x++[r]) (norm (nk r::s)) (max deep (s.length+1)):=by
 have hp: ∀y,trees 1 ((x++[r])++y)=trees (vg (nk r::s)).length y∧aT [1] ((x++[r])++y)=aT [1] x++(s.length+1)::aT (vg (nk r::s)) y:=by
  intro y;rw[sY,List.singleton_append];by_cases hx:x=[]
  ·have h0:=h.none_ hx;subst hx h0;simp only[tw,vg,Bh,nR,o8,mr,vq,aT,tw];refine⟨?_,by simp⟩;show trees (nk r+0) y=_;rfl
  ·have hn:s≠[]:=hs.resolve_left hx;obtain⟨h1,h2⟩:=h.more hx (r::y);rw[h1,h2,sF h.rest hn];refine⟨?_,by simp[aT,vg]⟩;show trees (nk r+(Bh s).length) y=_;simp[vg]
 refine⟨EV _,?_,fun _ y=>?_,fun h=>absurd h (by simp)⟩
 ·have h1:=(hp []).2;rw[nR,jF]at h1;rw[h1,Qx,h.κ]
 ·obtain⟨h1,h2⟩:=hp y;have h3:=(hp []).2;rw[nR,jF]at h3;rw[ET];exact⟨h1,by rw[h2,h3,sY];rfl⟩
theorem fp.full (h:fp x s deep) (hx:x≠[]) (hs:s=[]) (r:PR) (y:List PR):trees 1 (x++r::y)=false:=by
 rw[(h.more hx (r::y)).1,hs];rfl
theorem fp.done (h:fp x s deep):trees 1 x=(!x.isEmpty&&s.isEmpty):=by
 by_cases hx:x=[]
 ·subst hx;rfl
 ·have h1:=(h.more hx []).1;rw[nR]at h1;rw[h1];have h2:=UQ h.rest;cases s with
  |nil=>simp[vg,trees,hx]
  |cons c t=>
   rw[sF h.rest (by simp)];simp[trees]
theorem fp.iD {x:List PR} {s:List Nat} {deep:Nat} (h:fp x s deep):deep=iD x:=h.κ
theorem Cp (h:(x++r::y).length<nk r):trees 1 (x++r::y)=false:=by
 have gen: ∀(x:List PR) (n:Nat),(x++r::y).length<nk r→trees n (x++r::y)=false:=by
  intro x;induction x with
  |nil=>
   intro n h;cases n with
   |zero=>rfl
   |succ n=>
    cases hc:trees (n+1) ([]++r::y)with
    |false=>rfl
    |true=>
     have h1:=BG y (nk r+n) hc;simp only[tw,ek]at h;omega
  |cons q x ih=>
   intro n h;cases n with
   |zero=>rfl
   |succ n=>exact ih _ (by simp only[oh,ek]at h;omega)
 exact gen x 1 h
theorem J3 (h:dc y=false):dc (x++y)=false:=by
 induction x with
 |nil=>exact h
 |cons r x ih=>rw[oh,dc,ih,tx]
theorem GF (h:ig y=false) (hk:r.kind=4):dc (x++r::y)=false:=by
 refine J3 ?_;rw[dc,h,dO hk];rfl
def rh (x y:List PR):Bool:=x.all aC&&(dc (x++y)==dc y)
theorem GG (h:(dc (x++r::y)==dc (r::y))=true) (hr:(!decide (r.kind=4)||ig y)=true):
  (dc ((x++[r])++y)==dc y)=true:=by
 rw[sY,List.singleton_append,cx.1 h,dc,hr,mx];simp
theorem Cq (h:rh x (r::y)=true) (hs:aC r=true) (hr:(!decide (r.kind=4)||ig y)=true):rh (x++[r]) y=true:=by
 unfold rh at h ⊢
 rw[kH]at h ⊢
 exact⟨by rw[ID,h.1];simp[hs],GG h.2 hr⟩
theorem EW (h:rh x []=true):dB x=trees 1 x:=by
 unfold rh at h;rw[kH,nR]at h;rw[dB,h.1,cx.1 h.2];simp[dc]
end Go.Proofs.YtcdoilkjmjbgmaaGreatDoor
namespace Go.Proofs.YtcdoilkjmjbgmaaGreatDoor
open Go.RowKit
open Go.Proofs.Tryz
variable {W W' w0 w w':World} {b n c g e x k o a base F r p at' er size m d:Nat} {xs:List Value} {u v:Value} {s t:List Nat} {P:Program} {ops:Array Oper} {rest:List Oper} {l:List UInt8} {ao:Option Addr} {T:Nat→World→Prop} {br sq rm col cf i1 i2:Bool} {LS:ByteArray} {L:List (Nat×PR)} {rs:List PR}
theorem BH : ∀ s : List Nat, (∀ c ∈ s.tail, 0 < c) → ∀ c ∈ norm s, 0 < c
  | [], _ => by rw [fL]; intro c h; cases h
  | [0], _ => by rw [kV]; intro c h; cases h
  | 0 :: c :: s, h => by
    rw[jb]
    exact BH ((c-1)::s) fun x hx=>h x (AX _ hx)
  | (c + 1) :: s, h => by
    rw[kW s (by omega)]
    intro x hx
    rcases gL.1 hx with rfl|hx
    · omega
    · exact h x hx
  termination_by s=>s.length
def s7 (n:Nat):Value:=.int .i64 (n:Int)
def dK (b:Nat) (W:World) (v:Value) (s:List Nat):Prop:=W.ownsRow b 3 1 v s.length (s.reverse.map s7)
theorem dK.nil (b:Nat) (W:World):dK b W (.slice none 0 0) []:=sZ _ _ _ _
theorem YD {e:TypeId} (h:W.ownsRow b e 1 (.slice (some ⟨g,0,none⟩) (n+1) c) (n+1) (xs++[u])):W.ownsRow b e 1 (.slice (some ⟨g,0,none⟩) n c) n xs:=by
 have hl:xs.length=n:=by have:=h.1;simp at this;omega
 refine⟨by omega,?_⟩;rcases h.2 with⟨hv,_⟩|⟨g',cap,cur,hv,h1,h2,h3,h4,h5,h6⟩
 ·cases hv
 ·injection hv with e1 e2 e3
  injection e1 with e1
  injection e1 with e1 _ _
  subst e1 e3;refine .inr ⟨g,c,cur,rfl,h1,h2,by omega,h4,h5,?_⟩;rw[oj]at h6 ⊢
  have:=cn (List.take n) h6;rw[List.take_take,mS (by omega)]at this;rw[this,AU (by omega),Dq (by omega)]
theorem dK.form (h:dK b W v s):(v= .slice none 0 0∧s=[])∨ ∃g c,v= .slice (some ⟨g,0,none⟩) s.length c∧b≤g∧g<W.heap.size:=by
 rcases h.2 with⟨hv,hn⟩|⟨g,cap,cur,hv,h1,h2,_⟩
 ·exact .inl ⟨hv,o6.1 hn⟩
 ·exact .inr ⟨g,cap,hv,h1,(yj.1 h2).1⟩
theorem dK.top (h:dK b W (.slice (some ⟨g,0,none⟩) n c) (x::t)):W.cell? ⟨g,t.length,none⟩=some (.int .i64 (x:Int))∧W.frozen? ⟨g,t.length,none⟩=false:=by
 have h1:=h.2;obtain rfl:n=(x::t).length:=by
  rcases h.2 with⟨hv,_⟩|⟨g',cap,cur,hv,_⟩
  ·cases hv
  ·injection hv
 refine⟨?_,World.ownsRow.frozenAt h _⟩;rw[It h t.length (by simp)];simp[s7]
theorem dK.cap {b:Nat} {W:World} {g c:Nat} {s:List Nat} {n:Nat} (h:dK b W (.slice (some ⟨g,0,none⟩) n c) s):n≤c:=by
 rcases h.2 with⟨hv,_⟩|⟨g',cap,cur,hv,_,_,h3,_⟩
 ·cases hv
 ·injection hv with e1 e2 e3
  omega
theorem dK.pop (h:dK b W (.slice (some ⟨g,0,none⟩) (n+1) c) (x::t)) (hn:n=t.length):dK b W (.slice (some ⟨g,0,none⟩) n c) t:=by
 subst hn;unfold dK at h ⊢
 rw[List.reverse_cons,nQ,ek]at h;exact YD h
theorem dK.dec (h:dK b W (.slice (some ⟨g,0,none⟩) n c) (x::t)) (y:Nat):dK b (W.setCell ⟨g,t.length,none⟩ (.int .i64 (y:Int))) (.slice (some ⟨g,0,none⟩) n c) (y::t):=by
 obtain rfl:n=(x::t).length:=by
  rcases h.2 with⟨hv,_⟩|⟨g',cap,cur,hv,_⟩
  ·cases hv
  ·injection hv
 have h2:=(World.ownsRow.stored h t.length (.int .i64 (y:Int))).1;have e:((x::t).reverse.map s7).set t.length (.int .i64 (y:Int))=(y::t).reverse.map s7:=by
  rw[List.reverse_cons,nQ,List.reverse_cons,nQ,List.set_append_right _ _ (by simp)];simp[s7]
 rw[e]at h2;exact h2
theorem dK.below (h:dK b W v s) (hb:Below W.heap.size W W'):dK b W' v s:=bJ h hb
theorem norm_le {m : Nat} : ∀ s : List Nat, (∀ c ∈ s, c ≤ m) → ∀ c ∈ norm s, c ≤ m
  | [], _ => by rw [fL]; intro c h; cases h
  | [0], _ => by rw [kV]; intro c h; cases h
  | 0 :: c :: s, h => by
    rw[jb]
    refine norm_le ((c-1)::s) fun x hx=>?_
    rcases gL.1 hx with rfl|hx
    · have := h c (by simp); omega
    · exact h x (by simp [hx])
  | (c + 1) :: s, h => by rw [kW s (by omega)]; exact h
  termination_by s=>s.length
theorem dK.sl (h:dK b W v s): ∃a c,v= .slice a s.length c:=by
 rcases h.form with⟨rfl,rfl⟩|⟨g,c,rfl,_⟩
 ·exact⟨none,0,rfl⟩
 ·exact⟨_,c,rfl⟩
theorem dK.push (h:W.ownsRow b 3 1 v (s.length+1) (s.reverse.map s7++[.int .i64 (k:Int)])):dK b W v (k::s):=by
 unfold dK;rw[List.reverse_cons,nQ,ek];exact h
def rC:Value→Nat
 | .slice _ n _=>n
 |_=>0
theorem BI:(prog.info? 3).map (fun i=>(i.zero,i.size,i.bytes))=some (some (.int .i64 0),1,8):=by kernel_rfl
def jx (v v':Value):Prop:= ∃g n m cap,v= .slice (some ⟨g,0,none⟩) n cap∧v'= .slice (some ⟨g,0,none⟩) m cap
theorem rV (w:World) (base:Nat) (t ty e:TypeId) (i:TypeInfo) (z:Value) (size bytes:Nat) (ht:P.underlying t=some (.slice e)) (hi:P.info? e=some i) (hz:i.zero=some z)
  (To:i.size=size) (KS:i.bytes=bytes) (Ll:z.cells.size=size) (iI:0<size)
  (v:Value) (n:Nat) (xs:List Value) (aP:w.ownsRow base e size v n xs)
  (a:Addr) (m c:Nat) (news:List Value) (hl:news.length=m*size) (Om: ∀j u,news[j]? =some u→w.cell? (a.add j)=some u) (h1: ∀u∈news,u.oneCell'=true)
  (h63:n+m≤maxLen) (LV:(n+m)*bytes≤140737488355328) (cT:base≤w.heap.size) (hm:0<m):
  ∃v' w',(Builtin.append_ #[t,t] ty #[v,.slice (some a) m c]).run P w= .ok v' w'∧w'.ownsRow base e size v' (n+m) (xs++news)∧w.grownBy w' v.ownBlock∧
   (jx v v'∨(v'.ownBlock=some w.heap.size∧w.grownBy w' none)):=by
 obtain⟨v',w',hr,ho,hg,ar3⟩:=run_append_own (P:=P) w base t ty e i z size bytes ht hi hz To KS Ll iI v n xs aP a m c news hl Om h1 h63 LV cT;refine⟨v',w',hr,ho,hg,?_⟩;rcases aP.2 with⟨rfl,rfl⟩|⟨g,cap,cur,rfl,hbg,Hw,hnc,hcm,bf,anv⟩
 ·refine .inr ⟨?_,hg⟩;have hb:m*i.bytes≤281474976710656:=by rw[KS];rw[mr]at LV;omega
  have Pp:=run_append_nil (P:=P) w t ty e i z ht hi hz a m c news (by rw[To];exact hl) Om hm (by have:=h63;simp only[maxLen]at this;omega) hb;rw[Pp]at hr;injection hr with e1 e2
  subst e1;rfl
 ·subst To;by_cases ν:n+m≤cap
  ·have ajP:n*i.size+news.length≤cur.size:=by rw[hl,bf,←ow];exact fg _ ν
   have Pp:=run_append_room (P:=P) w t ty e i ht hi g n cap cur Hw a m c news hl Om h1 ν ajP;rw[Pp]at hr;injection hr with e1 e2
   subst e1;exact .inl ⟨g,n,n+m,cap,rfl,rfl⟩
  ·have holds: ∀j u,xs[j]? =some u→w.cell? ((⟨g,0,none⟩:Addr).add j)=some u:=aP.cells (g:=g) rfl;have Pp:=run_append_grow (P:=P) w t ty e i z ht hi hz ⟨g,0,none⟩ n cap xs aP.1 holds a m c news hl Om (by omega) (by have:=h63;simp only[maxLen]at this;omega) (growslice_fits (by omega) (by rw[KS];exact LV));rw[Pp]at hr;injection hr with e1 e2
   subst e1;refine .inr ⟨rfl,?_⟩;rw[←e2];exact⟨rfl,rfl,rfl,by simp,fun _ hk _=>heap_alloc_old w.drew _ hk⟩
theorem lT {o:Oper} {a:Act} {Q:Exit → Act → World → Prop} 
    (hg : o.guard = none) (s x : Operand) (t : TypeId) (ye : o.op = Op.call { callee := Callee.builtin Builtin.append, args := #[s, x], argTypes := #[t, t] })
    (base : Nat) (e : TypeId) (z : Value) (size bytes : Nat) (mz : (P.info? e).map (fun i => (i.zero, i.size, i.bytes)) = some (some z, size, bytes)) (h1 : P.underlying t = some (.slice e)) (Ll : z.cells.size = size) (iI : 0 < size)
    (v : Value) (n : Nat) (xs : List Value) (hs : a.eval s = v) (aP : w0.ownsRow base e size v n xs) (us : List Value) (Zv : us.length = size)
    (hx : a.eval x = .slice (some ⟨w0.heap.size, 0, none⟩) 1 1) (R6 : ∀ u ∈ us, u.oneCell' = true) (ud : n + 1 ≤ maxLen) (hb : (n + 1) * bytes ≤ 140737488355328) (cT : base ≤ w0.heap.size)
    (hK : ∀ v' w', w'.ownsRow base e size v' (n + 1) (xs ++ us) → w0.grownBy w' v.ownBlock → (jx v v' ∨ (v'.ownBlock = some (w0.heap.size + 1) ∧ w0.grownBy w' none)) → wpList P ops Q rest (a.put o.dst v') w') :
    wpList P ops Q (o::rest) a (w0.alloc (.cells us.toArray e)):=by
  obtain⟨i,hi,hz,Pf,KS⟩:=lF mz
  refine wpList_plain hg fun K yg=>?_
  obtain ⟨v', w', hr, r1, r2, r3⟩ := rV (P := P) (w0.alloc (.cells us.toArray e)) base t o.type e i z size bytes h1 hi hz Pf KS Ll iI v n xs (aP.alloc _) ⟨w0.heap.size, 0, none⟩ 1 1 us (by omega)
    (by intro j u hu
        have hj:j<us.length:=(AV.1 hu).1
        rw[lE,mr,xf _ _ _ _ rfl]
        simpa using hu) R6 ud hb (by simp;omega) (by omega)
  unfold Oper.wp execOp
  simp only[ye,resolve,invoke,builtin,vy,yA,AZ,List.map_toArray,mq,mY,hs,hx,hr]
  refine yg _ _ (hK v' w' r1 (ee (yl w0 _ _) r2) ?_)
  rcases r3 with h|⟨h,h'⟩
  · exact .inl h
  · exact .inr ⟨by simpa using h, ee (yl w0 _ _) h'⟩
def Er (w:World) (v:Value) (xs:List (Int×ByteArray×Int)):Prop:=
 (v= .slice none 0 0∧xs=[])∨ ∃g o c,v= .slice (some ⟨g,o,none⟩) xs.length c∧rq w g o xs
theorem rq.below {xs:List (Int×ByteArray×Int)} (h:rq w g o xs) (hb:Below w.heap.size w w'):rq w' g o xs:=
 ⟨iv h.1 hb.size,fun j hj=>⟨(hb.cell (p:=⟨g,_,none⟩) h.1).trans (h.2 j hj).1,(hb.cell (p:=⟨g,_,none⟩) h.1).trans (h.2 j hj).2.1,(hb.cell (p:=⟨g,_,none⟩) h.1).trans (h.2 j hj).2.2⟩⟩
theorem Er.below {w w':World} {v:Value} {xs:List (Int×ByteArray×Int)} (h:Er w v xs) (hb:Below w.heap.size w w'):Er w' v xs:=by
 rcases h with h|⟨g,o,c,h1,h2⟩
 ·exact .inl h
 ·exact .inr ⟨g,o,c,h1,h2.below hb⟩
def On (l:List UInt8):Bool:=digit (au l 0)||((au l 0).toNat==46&&decide (1<l.length)&&digit (au l 1))
def ac1 (l:List UInt8):Bool:=(List.range (l.length+1)).all fun k=> !On (l.drop k)||decide (an (l.drop k)<aX (l.drop k))
theorem UR (h:Av l):On l=true:=by
 rcases h with h|⟨h1,h2,h3⟩
 ·simp[On,h]
 ·simp[On,h1,h2,h3]
theorem quiet_of (h:ac1 l=true) (ok:List UInt8→Prop) (k:Nat):Tn ok (l.drop k):=by
 intro hh hn;rcases dE k (l.length+1)with hk|hk
 ·have:=qS.1 h k (qj.2 hk);rw[UR hh]at this;simp at this;omega
 ·have:l.drop k=[]:=tY (by omega);rw[this]at hh;rcases hh with h|⟨_,h,_⟩
  ·exact absurd h (by decide)
  ·exact absurd h (by decide)
def Du (t:Tok):Int×ByteArray×Int:=((t.kind:Int),⟨t.text.toArray⟩,(t.pos:Int))
theorem GH (ts:List Tok): ∀(j:Nat) (h:j<ts.length),(aO ts)[j*3]? =some (.int .i64 (ts[j].kind:Int))∧(aO ts)[j*3+1]? =some (.string ⟨ts[j].text.toArray⟩)∧(aO ts)[j*3+2]? =some (.int .i64 (ts[j].pos:Int)):=by
 induction ts with
 |nil=>intro j h;simp at h
 |cons t r ih=>
  intro j h;have e:aO (t::r)=t.cells++aO r:=by simp[aO]
  cases j with
  |zero=>rw[e];exact⟨rfl,rfl,rfl⟩
  |succ j=>
   have hl:t.cells.length=3:=rfl;obtain⟨a,b,c⟩:=ih j (by simpa using h);rw[e];refine⟨?_,?_,?_⟩
   ·rw[Iq (by rw[hl];omega),hl,show (j+1)*3-3=j*3 by omega];exact a
   ·rw[Iq (by rw[hl];omega),hl,show (j+1)*3+1-3=j*3+1 by omega];exact b
   ·rw[Iq (by rw[hl];omega),hl,show (j+1)*3+2-3=j*3+2 by omega];exact c
theorem DI {cap:Nat} {ts:List Tok} (h:w.ownsRow base e 3 (.slice (some ⟨g,0,none⟩) ts.length cap) ts.length (aO ts)):rq w g 0 (ts.map Du):=by
 refine⟨(h.lt g rfl).2,fun j hj=>?_⟩;have KR:j<ts.length:=by simpa using hj
 obtain⟨a,b,c⟩:=GH ts j KR;have e:(ts.map Du)[j]=Du ts[j]:=by simp
 rw[e,mr];refine⟨?_,?_,?_⟩
 ·rw[h.cellAt _ (by omega),a];rfl
 ·rw[h.cellAt _ (by omega),b];rfl
 ·rw[h.cellAt _ (by omega),c];rfl
theorem GI {ts:List Tok} (h:w.ownsRow base e 3 v ts.length (aO ts)):Er w v (ts.map Du):=by
 rcases h.2 with⟨rfl,hn⟩|⟨g,cap,cur,rfl,_⟩
 ·refine .inl ⟨rfl,?_⟩;rw[Ia hn];rfl
 ·exact .inr ⟨g,0,cap,by simp,DI h⟩
theorem GJ {ts:List Tok} (h:eU l=(ts,some (a,e))):e≠0∧a≤33554432∧e≤112:=by
 unfold eU at h;by_cases hl:33554432<l.length
 ·rw[az hl]at h;injection h with _ h
  injection h with h
  injection h with h1 h2
  omega
 ·rw[ah hl]at h;have:=nG l.length l 0 false false ts a e (aS _) h;omega
def ri (w:World) (v:Value) (xs:List (Int×ByteArray×Int)):Prop:=
 ∃ao c,v= .slice ao xs.length c∧ ∀j (h:j<xs.length),∃g o,ao=some ⟨g,o,none⟩∧g<w.heap.size∧w.cell? ⟨g,o+j*3,none⟩=some (.int .i64 xs[j].1)∧w.cell? ⟨g,o+j*3+1,none⟩=some (.string xs[j].2.1)∧w.cell? ⟨g,o+j*3+2,none⟩=some (.int .i64 xs[j].2.2)
theorem rq.at {xs:List (Int×ByteArray×Int)} (h:rq w g o xs):ri w (.slice (some ⟨g,o,none⟩) xs.length c) xs:=
 ⟨_,c,rfl,fun j hj=>⟨g,o,rfl,h.1,h.2 j hj⟩⟩
theorem Er.at {w:World} {v:Value} {xs:List (Int×ByteArray×Int)} (h:Er w v xs):ri w v xs:=by
 rcases h with⟨rfl,rfl⟩|⟨g,o,c,rfl,h⟩
 ·exact⟨none,0,rfl,fun j hj=>absurd hj (by simp)⟩
 ·exact h.at
theorem ri.below {xs:List (Int×ByteArray×Int)} (h:ri w v xs) (hb:Below w.heap.size w w'):ri w' v xs:=by
 obtain⟨ao,c,rfl,hc⟩:=h;refine⟨ao,c,rfl,fun j hj=>?_⟩;obtain⟨g,o,rfl,hg,h1,h2,h3⟩:=hc j hj;exact⟨g,o,rfl,iv hg hb.size,(hb.cell (p:=⟨g,_,none⟩) hg).trans h1,(hb.cell (p:=⟨g,_,none⟩) hg).trans h2,(hb.cell (p:=⟨g,_,none⟩) hg).trans h3⟩
theorem ri.tok {ts:List Tok} (h:ri w (.slice ao n c) (ts.map Du)):n=ts.length∧ ∀j (h:j<ts.length),∃g o,ao=some ⟨g,o,none⟩∧g<w.heap.size∧w.cell? ⟨g,o+j*3,none⟩=some (.int .i64 (ts[j].kind:Int))∧w.cell? ⟨g,o+j*3+1,none⟩=some (.string ⟨ts[j].text.toArray⟩)∧w.cell? ⟨g,o+j*3+2,none⟩=some (.int .i64 (ts[j].pos:Int)):=by
 obtain⟨ao',c',he,hc⟩:=h;injection he with h1 h2 h3
 subst h1;refine⟨by simpa using h2,fun j hj=>?_⟩;obtain⟨g,o,h1,h2,h3,h4,h5⟩:=hc j (by simpa using hj);have e:(ts.map Du)[j]'(by simpa using hj)=Du ts[j]:=by simp
 rw[e]at h3 h4 h5;exact⟨g,o,h1,h2,h3,h4,h5⟩
theorem gF (h:r<F):F-(intOf (.int .i64 ((r:Int)+1))).toNat<F-(intOf (.int .i64 (r:Int))).toNat:=by
 have h1:(intOf (.int .i64 ((r:Int)+1))).toNat=r+1:=rfl;have h2:(intOf (.int .i64 (r:Int))).toNat=r:=rfl;rw[h1,h2];exact Nat.sub_lt_sub_left h (vu r)
theorem ri.drewN {w:World} {v:Value} {xs:List (Int×ByteArray×Int)} (h:ri w v xs) (n:Nat):ri (w.drewN n) v xs:=h
theorem fr.open {r:List Tok×Option (Nat×Nat)} {e:Ending} (h:fr w r e w'):
  ∃ao c,e= .returned (.tuple #[.slice ao (gI r).length c,.int .i64 (yI r:Int),.int .i64 (rr r:Int)])∧w'.ownsRow w.heap.size 139 3 (.slice ao (gI r).length c) (gI r).length (aO (gI r))∧ri w' (.slice ao (gI r).length c) ((gI r).map Du)∧Below w.heap.size w w':=by
 obtain⟨v,rfl,ho,hb⟩:=h;have hs:=GI ho;rcases ho.2 with⟨rfl,hn⟩|⟨g,cap,cur,rfl,_⟩
 ·rw[Ia hn]at*
  exact⟨none,0,rfl,ho,hs.at,hb⟩
 ·exact⟨_,cap,rfl,ho,hs.at,hb⟩
theorem yY (h:(eU l).2=some (a,e)):e≠0∧a≤33554432∧e≤112:=
 GJ (ts:=(eU l).1) (by rw[←h])
theorem sG: ∀(m:Nat) (l:List UInt8) (p:Nat) (br sq:Bool),l.length≤m→(cK l p br sq).1.length≤l.length∧ ∀t∈(cK l p br sq).1,t.pos+t.text.length≤p+l.length
 |m,[],p,br,sq,_=>⟨aV _,fun t h=>by cases h⟩
 |0,c::r,p,br,sq,h=>by simp at h
 |m+1,c::r,p,br,sq,hm=>by
  have bW:c::r≠[]:=by simp
  generalize hl:c::r=x at*
  have hlen:=lO bW;cases hb:jq (au x 0)
  ·by_cases hc:(au x 0).toNat=35
   ·have hr:=kd bW;rw[jE bW hc];obtain⟨i1,i2⟩:=sG m (x.drop (cV x)) (p+cV x) br sq (by simp;omega);rw[nP]at i1 i2;exact⟨by omega,fun t ht=>by have:=i2 t ht;omega⟩
   ·cases ht:aZ x br sq with
    |bad e'=>rw[sA bW hb hc ht];exact⟨aV _,fun t h=>by cases h⟩
    |tok k n b q=>
     have hn:=iS bW ht;rw[oO bW hb hc ht];obtain⟨i1,i2⟩:=sG m (x.drop n) (p+n) b q (by simp;omega);rw[nP]at i1 i2;refine⟨by simp only[ek];omega,fun t ht=>?_⟩;rcases gL.1 ht with rfl|ht
     ·simp only[nO];omega
     ·have:=i2 t ht;omega
  ·rw[cN bW hb];obtain⟨i1,i2⟩:=sG m (x.drop 1) (p+1) br sq (by simp;omega);rw[nP]at i1 i2;exact⟨by omega,fun t ht=>by have:=i2 t ht;omega⟩
theorem yZ (l:List UInt8):(eU l).1.length≤l.length∧ ∀t∈(eU l).1,t.pos+t.text.length≤l.length:=by
 unfold eU;split
 ·exact⟨aV _,fun t h=>by cases h⟩
 ·have:=sG l.length l 0 false false (aS _);rw[mr]at this;exact this
theorem TR {x s:ByteArray} (h: ¬x=s):(x.toList==s.toList)=false:=by
 rw[bN];intro e;rw[nM,nM]at e;exact h (by rw[←mk_data x,←mk_data s,e])
theorem kf (hT:pv (fun _=>True) T) (w:World) (s:ByteArray) (hs:s.size≤1048576) (kp:T w.heap.size w):
  Calls prog 101 #[.string s] w (kt w (fy s)):=by
 obtain⟨R,hR⟩: ∃R,R=eU s.data.toList:=⟨_,rfl⟩;have hk:fy s=LH s.data.toList R:=by rw[hR];rfl
 have HK:=ae hk;have HR:=ae hR;have HE:=ae (show ∀a e,R.2=some (a,e)→e≠0 from fun a e h=>(yY (by rw[←hR];exact h)).1);have HL:Hid (R.1.length≤1048576):=ae (by
  have h1:=(yZ s.data.toList).1;rw[←hR,af]at h1;omega)
 clear hk hR;go_enter func101,ntmps101;go_wp2_with fail;refine(UP hT _ s (by omega) (fun _ _ _=>trivial) kp).mono ?_;intro e w2 hp;obtain⟨ao,ca,rfl,hoa,Pw,aQ⟩:=hp.open;rw[←HR.out]at hoa Pw ⊢
 have HB:=ae aQ;have FG:=ae Pw;clear hoa Pw hp aQ kp;obtain⟨ts,er⟩:=R;cases er with
 |some f=>
  obtain⟨a,c⟩:=f;have he:=HE a c rfl;have hc:((c:Int)==0)=false:=by rw[bN];omega
  have ko:((c:Int) != 0)=true:=by rw[bne,hc];rfl
  simp only[rr,yI,gI];have H0:Hid (fy s=0):=ae (by rw[HK.out];cases ts with|nil=>rfl|cons t ts=>cases ts<;>rfl);clear HK HE FG HR HL;go_wp2_with fail;go_ret;exact⟨by rw[H0.out];rfl,HB⟩
 |none=>
  simp only[rr,yI,gI]at FG ⊢
  obtain⟨ao',c',hv,hc⟩:=FG.out;cases ts with
  |nil=>
   have H0:Hid (fy s=0):=ae (by rw[HK.out];rfl);clear HK HE FG HR HL hv hc;go_wp2_with fail;go_ret;exact⟨by rw[H0.out];rfl,HB⟩
  |cons t ts=>
   cases ts with
   |cons t2 ts=>
    have H0:Hid (fy s=0):=ae (by rw[HK.out];rfl);have hl:((((t::t2::ts).length:Nat):Int)==1)=false:=by rw[bN];simp only[ek];omega
    have uR:((((t::t2::ts).length:Nat):Int) != 1)=true:=by rw[bne,hl];rfl
    clear HK HE FG HR HL hv hc;generalize (t::t2::ts).length=n at hl uR ⊢
    go_wp2_with fail;go_ret;exact⟨by rw[H0.out];rfl,HB⟩
   |nil=>
    obtain⟨g,o,Xn,hg,h0,h1,h2⟩:=hc 0 (by simp);injection hv with Sr Pr hv3
    subst Sr Xn;simp only[mq,mY,Is,Du,yB,iz,ek,o8,mr]at h0 h1 h2 ⊢
    clear Pr hv3 hc FG HR HE HL h2;by_cases he:t.text=s.data.toList
    ·have H0:Hid (fy s=t.kind):=ae (by rw[HK.out];simp[LH,he]);rw[he,mk_data]at h1;clear HK he;go_wp2_with fail;go_ret;exact⟨by rw[H0.out];rfl,HB⟩
    ·have H0:Hid (fy s=0):=ae (by rw[HK.out];simp[LH,he]);have bW: ¬(⟨t.text.toArray⟩:ByteArray)=s:=fun h=>he (by rw[←h])
     obtain⟨x,hx⟩: ∃x:ByteArray,x=⟨t.text.toArray⟩:=⟨_,rfl⟩;rw[←hx]at h1 bW;have XR:(x.toList==s.toList)=false:=TR bW;clear HK he hx bW;go_wp2_with fail;go_ret;exact⟨by rw[H0.out];rfl,HB⟩
theorem gB (hT:pv (fun _=>True) T) (w:World) (s:ByteArray) (hs:s.size≤1048576) (kp:T w.heap.size w):
  Calls prog 85 #[.string s] w (aF w (fz s)):=by
 have HC:=ae (kf hT w s hs kp);have HD:Hid (fz s=(((fy s:Nat):Int)==4)):=ae (by unfold fz;rw[eo];simp;omega);clear kp;go_enter func85,ntmps85;go_wp2_with fail;refine HC.mono ?_;rintro e w2 ⟨rfl,hb⟩;have HB:=ae hb;clear hb;go_wp2_with fail;go_ret;exact⟨by rw[HD.out];rfl,HB⟩
theorem J4 (hT:pv (fun _=>True) T) (w:World) (s:ByteArray) (hs:s.size≤1048576) (kp:T w.heap.size w):
  Calls prog 78 #[.string s] w (aF w (ie s)):=by
 have HC:=ae (kf hT w s hs kp);have HD:Hid (ie s=(((fy s:Nat):Int)==3||((fy s:Nat):Int)==4)):=ae (by unfold ie;rw[eo];simp;omega);clear kp;generalize fy s=k at HC HD;go_enter func78,ntmps78;go_wp2_with fail;refine HC.mono ?_;rintro e w2 ⟨rfl,hb⟩;have HB:=ae hb;clear hb HC;by_cases h3:k=3
 ·subst h3;go_wp2_with fail;go_ret;exact⟨by rw[HD.out];rfl,HB⟩
 ·have h3':((k:Int)==3)=false:=by rw[bN];omega
  clear h3;go_wp2_with fail;go_ret;exact⟨by rw[HD.out,h3'];rfl,HB⟩
def pJ (l:List UInt8) (k:Nat):Nat:=k+cV (l.drop k)
theorem ML (h:l.length≤k):pJ l k=k:=by
 rw[pJ,tY h];rfl
theorem za (h:k<l.length) (hc:(au l k).toNat≠10):pJ l (k+1)=pJ l k:=by
 have hn:eJ (au l k)=true:=by simp[eJ,hc]
 have h1:ag eJ (l.drop k) 0=ag eJ (l.drop (k+1)) 0+1:=by
  rw[drop_at h];simp[ag,qN,hn]
 unfold pJ cV;rw[h1,nP,nP];omega
theorem Qy (h:k<l.length) (hc:(au l k).toNat=10):pJ l k=k+1:=by
 have hn:eJ (au l k)=false:=by simp[eJ,hc]
 have h1:ag eJ (l.drop k) 0=0:=by
  rw[drop_at h];simp[ag,qN,hn]
 unfold pJ cV;rw[h1,nP];omega
def gG (l:List UInt8) (br sq:Bool) (rm:Bool) (k:Nat):List Tok×Option (Nat×Nat):=if rm=true then cK (l.drop (pJ l k)) (pJ l k) br sq else cK (l.drop k) k br sq
theorem Qz (h:k<l.length) (hc:(au l k).toNat=10):gG l br sq false (k+1)=gG l br sq rm k:=by
 have bW:l.drop k≠[]:=by intro e;have:=cn List.length e;simp at this;omega
 cases rm
 ·simp only[gG,lk,iw];rw[cN bW (by rw[gq,iz];simp[jq,hc]),yz]
 ·simp only[gG,lk,iw,kK,Qy h hc]
theorem EX (h:k<l.length) (hc:(au l k).toNat≠10):gG l br sq true (k+1)=gG l br sq true k:=by
 simp only[gG,kK,za h hc]
theorem J5 (h:k<l.length) (hc:(au l k).toNat=35):gG l br sq true (k+1)=gG l br sq rm k:=by
 have bW:l.drop k≠[]:=by intro e;have:=cn List.length e;simp at this;omega
 cases rm
 ·simp only[gG,lk,iw,kK];rw[jE bW (by rw[gq,iz];exact hc),yz,za h (by omega)];rfl
 ·exact EX h (by omega)
theorem QA (h:k<l.length) (hc:jq (au l k)=true):gG l br sq false (k+1)=gG l br sq false k:=by
 have bW:l.drop k≠[]:=by intro e;have:=cn List.length e;simp at this;omega
 simp only[gG,lk,iw];rw[cN bW (by rw[gq,iz];exact hc),yz]
theorem MM (h:l.length≤k):gG l br sq rm k=cK (l.drop k) k br sq:=by
 cases rm
 ·rfl
 ·simp only[gG,kK,ML h]
theorem pM {s:ByteArray} (h:LZ w p s at' br sq v er):nf w p=at':=by
 unfold nf;have:w.cell? ⟨p,1,none⟩=some (.int .i64 (at':Int)):=by rw[h.cell];rfl
 rw[this];simp
structure eK (base:Nat) (w0:World) (p:Nat) (s:ByteArray) (at':Nat) (br sq:Bool) (v:Value) (ts:List Tok) (w:World):Prop where
 z:LZ w p s at' br sq v 0
 own:w.ownsRow base 139 3 v ts.length (aO ts)
 below:Below base w0 w
 bp:base≤p
theorem eK.drewN {base:Nat} {w0:World} {p:Nat} {s:ByteArray} {at':Nat} {br sq:Bool} {v:Value} {ts:List Tok} {w:World} (h:eK base w0 p s at' br sq v ts w) (n:Nat):eK base w0 p s at' br sq v ts (w.drewN n):=
 ⟨aM.drewN h.z n,h.own,bZ h.below n,h.bp⟩
theorem eK.goto {s:ByteArray} {ts:List Tok} (h:eK base w0 p s at' br sq v ts w) {m:Nat} {y:Int} (hy:y=(m:Int)):eK base w0 p s m br sq v ts (w.setCell ⟨p,1,none⟩ (.int .i64 y)):=by
 subst hy;refine⟨?_,aG h.own h.z (by decide) _,h.below.setCell (p:=⟨p,1,none⟩) h.bp _,h.bp⟩;have:=aM.dz h.z 1 (.int .i64 (m:Int));simpa [LZ]using this
theorem QB (w : World) (base p : Nat) (s : ByteArray) (at' : Nat) (br sq : Bool) (v : Value) (ts : List Tok) (w0 : World) (hs : s.size ≤ 281474976710656) (cI : at' ≤ s.size) (h : eK base w0 p s at' br sq v ts w) :
    Calls prog 92 #[.pointer (some ⟨p, 0, none⟩)] w fun e w' => e = .returned (.tuple #[]) ∧
      ∃k,at'≤k∧k≤s.size∧eK base w0 p s k br sq v ts w'∧cK (s.data.toList.drop k) k br sq=cK (s.data.toList.drop at') at' br sq∧(∀hk:k<s.size,jq s[k]=false∧s[k].toNat≠35):=by
  obtain⟨R,hR⟩: ∃R,R=cK (s.data.toList.drop at') at' br sq:=⟨_,rfl⟩
  have h0:gG s.data.toList br sq false at'=R:=by rw[hR];rfl
  rw[←hR]
  have H:=ae h
  have H0:=ae h0
  clear h h0 hR
  go_enter func92,ntmps92
  go_wp2_with fail
  go_loopw [2] (fun t wr=> ∃(rm:Bool) (k:Nat),at'≤k∧k≤s.size∧t= .bool rm∧Hid (eK base w0 p s k br sq v ts wr)∧Hid (gG s.data.toList br sq rm k=R)) (fun _ wr=>s.size-nf wr p)
  case atStart=>exact⟨false,at',aS _,cI,rfl,H,H0⟩
  case round =>
    obtain⟨rm,k,mP,hk,rfl,dy,hR⟩:=hrel
    clear H H0
    have c0:wr.cell? ⟨p,0,none⟩=some (.string s):=by rw[dy.out.z.cell];rfl
    have c1:wr.cell? ⟨p,1,none⟩=some (.int .i64 (k:Int)):=by rw[dy.out.z.cell];rfl
    have hmu:nf wr p=k:=pM dy.out.z
    have HMU:=ae hmu
    clear hmu
    by_cases aA:k<s.size
    · go_wp2_with fail
      go_quiet (fail)
      have qx:=ae (dy.out.drewN nq)
      have a0:(wr.drewN nq).cell? ⟨p,0,none⟩=some (.string s):=by rw[qx.out.z.cell];rfl
      have a1:(wr.drewN nq).cell? ⟨p,1,none⟩=some (.int .i64 (k:Int)):=by rw[qx.out.z.cell];rfl
      clear c0 c1
      generalize wr.drewN nq=w2 at qx a0 a1 ⊢
      go_wp2_with fail
      go_quiet (fail)
      have KY:=ae (qx.out.drewN nq)
      have b0:(w2.drewN nq).cell? ⟨p,0,none⟩=some (.string s):=by rw[KY.out.z.cell];rfl
      have b1:(w2.drewN nq).cell? ⟨p,1,none⟩=some (.int .i64 (k:Int)):=by rw[KY.out.z.cell];rfl
      have f1:(w2.drewN nq).frozen? ⟨p,1,none⟩=false:=KY.out.z.frozen 1
      clear a0 a1 qx dy
      generalize w2.drewN nq=w3 at KY b0 b1 f1 ⊢
      have Pu:k<s.data.toList.length:=by rw[af];exact aA
      have pg:=ay aA
      have Wv:=ae Pu
      have Hx:=ae pg
      clear Pu pg
      cases Lt:((s[k].toNat:Int)==10)
      · have Hg : (au s.data.toList k).toNat ≠ 10 := by rw [Hx.out]; have := kE Lt; omega
        cases e35:((s[k].toNat:Int)==35)
        · cases rm
          · have Ww : Hid (jq s[k] = true → gG s.data.toList br sq false (k + 1) = R) := ae (fun hb => (QA (br := br) (sq := sq) Wv.out (by rw [Hx.out]; exact hb)).trans hR.out)
            have HE:=ae (show cK (s.data.toList.drop k) k br sq=R from hR.out)
            clear hR Hg
            have n10:=kE Lt
            have n35:=kE e35
            have hm:nf (w3.setCell ⟨p,1,none⟩ (.int .i64 ((k:Int)+1))) p=k+1:=pM (KY.out.goto (m:=k+1) (by omega)).z
            have HM:=ae hm
            clear hm
            go_wp2_with fail
            all_goals try simp only[jo,ne_eq,Iv]at*
            all_goals first
              | (have hb : jq s[k] = true := by simp [jq]; omega
                 exact⟨⟨false,k+1,by omega,by omega,rfl,ae (KY.out.goto (m:=k+1) (by omega)),ae (Ww.out hb)⟩,by rw[HM.out,HMU.out];omega⟩)
              | (have hb : jq s[k] = false ∧ s[k].toNat ≠ 35 := by simp [jq]; omega
                 refine cB (pa rfl _ _ _) rfl ?_
                 exact⟨rfl,k,mP,hk,KY.out,HE.out,fun _=>hb⟩)
          · have HE := ae ((EX (br := br) (sq := sq) Wv.out Hg).trans hR.out)
            clear hR Hg
            go_wp2_with fail
            have hm:nf (w3.setCell ⟨p,1,none⟩ (.int .i64 ((k:Int)+1))) p=k+1:=pM (KY.out.goto (m:=k+1) (by omega)).z
            go_roundw
            case rel=>exact⟨_,k+1,by omega,by omega,rfl,ae (KY.out.goto (m:=k+1) (by omega)),HE⟩
            case measure=>rw[hm,HMU.out];omega
        · have HE := ae ((J5 (br := br) (sq := sq) (rm := rm) Wv.out (by rw [Hx.out]; have := jn e35; omega)).trans hR.out)
          clear hR Hg
          go_wp2_with fail
          have hm:nf (w3.setCell ⟨p,1,none⟩ (.int .i64 ((k:Int)+1))) p=k+1:=pM (KY.out.goto (m:=k+1) (by omega)).z
          go_roundw
          case rel=>exact⟨_,k+1,by omega,by omega,rfl,ae (KY.out.goto (m:=k+1) (by omega)),HE⟩
          case measure=>rw[hm,HMU.out];omega
      · have HE := ae ((Qz (br := br) (sq := sq) (rm := rm) Wv.out (by rw [Hx.out]; have := jn Lt; omega)).trans hR.out)
        clear hR
        go_wp2_with fail
        have hm:nf (w3.setCell ⟨p,1,none⟩ (.int .i64 ((k:Int)+1))) p=k+1:=pM (KY.out.goto (m:=k+1) (by omega)).z
        go_roundw
        case rel=>exact⟨_,k+1,by omega,by omega,rfl,ae (KY.out.goto (m:=k+1) (by omega)),HE⟩
        case measure=>rw[hm,HMU.out];omega
    · have uT : k = s.size := by omega
      have HE:=ae ((MM (br:=br) (sq:=sq) (rm:=rm) (l:=s.data.toList) (k:=k) (by rw[af];omega)).symm.trans hR.out)
      clear hR
      go_wp2_with fail
      go_quiet (fail)
      have qx:=ae (dy.out.drewN nq)
      clear c0 c1 dy
      generalize wr.drewN nq=w2 at qx ⊢
      go_wp2_with fail
      go_end0
      exact⟨rfl,k,mP,hk,qx.out,HE.out,fun h=>absurd h (by omega)⟩
def eV (base:Nat) (w0:World) (p:Nat) (s:ByteArray) (at':Nat) (ts:List Tok) (r:AO) (e:Ending) (w':World):Prop:=
 e= .returned (.tuple #[])∧match r with
  | .tok k n b q=> ∃v',eK base w0 p s (at'+n) b q v' (ts++[⟨k,(s.data.toList.drop at').take n,at'⟩]) w'
  | .bad er=> ∃br sq v',LZ w' p s at' br sq v' er∧Below base w0 w'
theorem vQ (s:ByteArray) (x:Int) (i:Nat) (hx:x=(i:Int)) (c:UInt8) (hc:au s.data.toList i=c) (w:World) (hs:s.size≤maxLen):
  Calls prog 96 #[.string s,.int .i64 x] w fun e w'=>e= .returned (.int .u8 (c.toNat:Int))∧w=w':=by
 subst hx hc;exact abD s i w hs
theorem dS (c:UInt8) (b:Bool) (hb:letter c=b) (w:World):
  Calls prog 93 #[.int .u8 (c.toNat:Int)] w fun e w'=>e= .returned (.bool b)∧w=w':=by
 subst hb;exact uj c w
theorem fD (c:UInt8) (b:Bool) (hb:digit c=b) (w:World):
  Calls prog 95 #[.int .u8 (c.toNat:Int)] w fun e w'=>e= .returned (.bool b)∧w=w':=by
 subst hb;exact xC c w
theorem bQ (w:World) (base p:Nat) (s:ByteArray) (at' k n:Nat) (x y:Int) (hx:x=(k:Int)) (hy:y=(n:Int)) (br sq:Bool) (v:Value) (ts:List Tok) (w0:World) (hs:s.size≤281474976710656) (hn:at'+n≤s.size) (hk:k≤6)
  (h:eK base w0 p s at' br sq v ts w) (hlen:ts.length≤1099511627776):
  Calls prog 109 #[.pointer (some ⟨p,0,none⟩),.int .i64 x,.int .i64 y] w (eV base w0 p s at' ts (.tok k n br sq)):=by
 refine(UK w base p s at' k n x y hx hy br sq v ts hs hn hk h.z h.own hlen h.bp).mono ?_;rintro e w' ⟨rfl,v',hz,ho,hb⟩;exact⟨rfl,v',hz,ho,h.below.trans hb,h.bp⟩
theorem GK (p:UInt8→Bool) (l:List UInt8) (i:Nat):ag p (l.drop i) 0=ag p l i-i:=by
 unfold ag;rw[mT];omega
theorem UT (FU:col=(!br&& !sq)) (h:letter (au l 0)=true∨((au l 0).toNat=58∧col=true)):
  aZ l br sq= .tok (bV br (l.take (ag (bn col) l 0))) (ag (bn col) l 0) br sq:=by
 subst FU;cases hl:letter (au l 0)
 ·have RY:(au l 0).toNat=58∧(!br&& !sq)=true:=by rcases h with h|h<;>first|exact h|(rw[hl]at h;cases h)
  rw[aZ,hl,ah (by simp),az RY,RY.2];have bW:l≠[]:=by rintro rfl;exact absurd RY.1 (by decide)
  have yE:l=au l 0::l.drop 1:=UJ bW;have hn:bn true (au l 0)=true:=by simp[bn,RY.1]
  have e1:ag (bn true) l 0=ag (bn true) l 1:=by
   conv=>lhs;rw[yE]
   conv=>rhs;rw[yE]
   simp[ag,qN,hn];omega
  rw[e1];have pc:1≤ag (bn true) l 1:=aW _ l 1;have hc:(l.take (ag (bn true) l 1)).contains 58=true:=by
   obtain⟨m,hm⟩: ∃m,ag (bn true) l 1=m+1:=⟨ag (bn true) l 1-1,by omega⟩;rw[hm]
   conv=>lhs;rw[yE]
   have:au l 0=58:=(yC (n:=58) (by omega)).2 RY.1;rw[qC,this];simp
  rw[bV,az hc]
 ·rw[aZ,hl,az rfl]
theorem GL {t:List UInt8} (h:t.contains 58=false) (h3:t.length≠3):bV br t=1:=by
 have hi:rp t=false:=by
  rw[Bool.eq_false_iff];intro hi;simp only[rp,tu,cx]at hi;rcases hi with hi|hi<;>(have:=cn List.length hi;simp at this;omega)
 rw[bV,h,ah (by simp),hi,tx,ah (by simp)]
theorem DJ {t:List UInt8} (h:t.contains 58=false) (h3:t.length=3):bV br t=if (!br&&((t.map low==[105,110,102])||(t.map low==[110,97,110])))=true then 3 else 1:=by
 have hi:rp t=((t.map low==[105,110,102])||(t.map low==[110,97,110])):=by
  rw[rp,Dq (by omega)]
 rw[bV,h,ah (by simp),hi]
theorem GM (hc:l.contains 58=cf) (hl:l.length=3) (hL:LS.toList=l.map low) (h1:(LS.toList==[105,110,102])=i1) (h2:(LS.toList==[110,97,110])=i2):
  (cf=true∧bV br l=2)∨(cf=false∧br=true∧bV br l=1)∨(cf=false∧br=false∧i1=true∧bV br l=3)∨(cf=false∧br=false∧i1=false∧i2=true∧bV br l=3)∨(cf=false∧br=false∧i1=false∧i2=false∧bV br l=1):=by
 cases cf
 ·have h:=DJ (br:=br) hc hl;rw[←hL,h1,h2]at h;rw[h];cases br<;>cases i1<;>cases i2<;>simp
 ·exact .inl ⟨rfl,by rw[bV,az hc]⟩
theorem GN {c:UInt8} (h:bn col c=true):letter c=true∨(letter c=false∧digit c=true)∨(letter c=false∧digit c=false∧((c.toNat:Int)==58)=true∧col=true):=by
 cases hl:letter c
 ·cases hd:digit c
  ·simp[bn,hl,hd]at h;exact .inr (.inr ⟨rfl,rfl,cx.2 (by omega),h.1⟩)
  ·exact .inr (.inl ⟨rfl,rfl⟩)
 ·exact .inl rfl
theorem QC {c:UInt8} (h: ¬bn col c=true):letter c=false∧digit c=false∧(col=true→((c.toNat:Int)==58)=false):=by
 simp[bn]at h;refine⟨h.1.1,h.1.2,fun hc=>bN.2 ?_⟩;have:=h.2 hc;omega
theorem ajQ (x:UInt8):(x==58)=((x.toNat:Int)==58):=by
 rw[eo,cx,cx,←A4,show (58:UInt8).toNat=58 from rfl];omega
theorem DK (l:List UInt8) (c d:UInt8):(l++[c]).contains d=(l.contains d||(c==d)):=by
 simp only[List.contains_eq_any_beq,List.any_append,List.any_cons,List.any_nil,qk];rw[BEq.comm (a:=d)]
set_option maxHeartbeats 16000000 in
theorem QD (w:World) (base p:Nat) (s:ByteArray) (at':Nat) (br sq:Bool) (v:Value) (ts:List Tok) (w0:World) (hs:s.size≤281474976710656) (cI:at'<s.size) (h:eK base w0 p s at' br sq v ts w) (hlen:ts.length≤1099511627776)
  (E:Nat) (hE:E=ag (bn (!br&& !sq)) s.data.toList at'):
  Calls prog 94 #[.pointer (some ⟨p,0,none⟩)] w (eV base w0 p s at' ts (.tok (bV br ((s.data.toList.drop at').take (E-at'))) (E-at') br sq)):=by
 obtain⟨col,FU⟩: ∃c,c=(!br&& !sq):=⟨_,rfl⟩;rw[←FU]at hE;have H4:(br=false∧sq=false∧col=true)∨(br=false∧sq=true∧col=false)∨(br=true∧sq=false∧col=false)∨(br=true∧sq=true∧col=false):=by
  rw[FU];cases br<;>cases sq<;>simp
 have c0:w.cell? ⟨p,0,none⟩=some (.string s):=by rw[h.z.cell];rfl
 have c1:w.cell? ⟨p,1,none⟩=some (.int .i64 (at':Int)):=by rw[h.z.cell];rfl
 have c2:w.cell? ⟨p,2,none⟩=some (.bool br):=by rw[h.z.cell];rfl
 have c3:w.cell? ⟨p,3,none⟩=some (.bool sq):=by rw[h.z.cell];rfl
 have H:=ae h;have HE:=ae hE;obtain⟨Q,hQ⟩: ∃Q:Ending→World→Prop,Q=eV base w0 p s at' ts (.tok (bV br ((s.data.toList.drop at').take (E-at'))) (E-at') br sq):=⟨_,rfl⟩;rw[←hQ];have HQ:=ae hQ;clear h hE hQ FU;go_enter func94,ntmps94;rcases H4 with⟨hb,hq,mX⟩|⟨hb,hq,mX⟩|⟨hb,hq,mX⟩|⟨hb,hq,mX⟩
 all_goals
  have Hy:=ae mX;clear mX;go_wp2_with fail;go_loopw [3,4] (fun t u wr=> ∃(m:Nat) (cf:Bool),at'+m≤s.size∧t= .int .i64 (m:Int)∧u= .bool cf∧Hid (eK base w0 p s at' br sq v ts wr)∧Hid (ag (bn col) s.data.toList (at'+m)=E)∧Hid (((s.data.toList.drop at').take m).contains 58=cf)) (fun t _ _=>s.size-(intOf t).toNat)
  case atStart=>exact⟨0,false,by omega,rfl,rfl,H,ae HE.out.symm,ae rfl⟩
  case round=>
   obtain⟨m,cf,hm,rfl,rfl,dy,gM,hcf⟩:=hrel;clear c0 c1 c2 c3;have c0:wr.cell? ⟨p,0,none⟩=some (.string s):=by rw[dy.out.z.cell];rfl
   have c1:wr.cell? ⟨p,1,none⟩=some (.int .i64 (at':Int)):=by rw[dy.out.z.cell];rfl
   obtain⟨c,hc⟩: ∃c,c=au s.data.toList (at'+m):=⟨_,rfl⟩;have HA:Hid (∀w,Calls prog 96 #[.string s,.int .i64 ((at':Int)+(m:Int))] w fun e w'=>e= .returned (.int .u8 (c.toNat:Int))∧w=w'):=ae (fun w=>vQ s _ (at'+m) (by omega) c hc.symm w (by unfold maxLen;omega));by_cases hn:bn col c=true
   ·have aA:at'+m<s.size:=by
     rcases dE (at'+m) s.size with h|h
     ·exact h
     ·exfalso;have h0:c=0:=by rw[hc];exact Bm (by rw[af];exact h)
      rw[h0]at hn;revert hn;cases col<;>decide
    have bf:c=s[at'+m]:=by rw[hc];exact ay aA
    have HSP:=ae ((gz aA (bf▸hn)).trans gM.out);have htk:(s.data.toList.drop at').take (m+1)=(s.data.toList.drop at').take m++[c]:=by
     rw[jO (by rw[nP,af];omega)]
     congr 1
     rw[vr,bf]
     congr 1
     all_goals exact gl _ _ _
    obtain⟨b,e59⟩: ∃b,((s[at'+m].toNat:Int)==58)=b:=⟨_,rfl⟩;have HCF:Hid (((s.data.toList.drop at').take (m+1)).contains 58=(cf||b)):=ae (by
     rw[htk,DK,hcf.out,ajQ,bf,e59])
    have p2:(at':Int)+(m:Int)<(s.size:Int):=by omega
    have p3:0≤(at':Int)+(m:Int):=by omega
    have afY:=GN hn;clear bf htk gM hc hn hcf;rcases afY with hl|⟨hl,hd⟩|⟨hl,hd,tj,PQ⟩
    all_goals try exact absurd (Hy.out.symm.trans PQ) (by decide)
    all_goals
     try clear PQ
     go_wp2_with fail;go_quiet (first|(go_at_call 96;exact Calls.quiet_of_same ((HA.out _).mono fun _ _ ⟨h1,h2⟩=>⟨h1,h2.symm⟩))|(go_at_call 93;exact Calls.quiet_of_same ((dS c _ hl _).mono fun _ _ ⟨h1,h2⟩=>⟨h1,h2.symm⟩))|(go_at_call 95;exact Calls.quiet_of_same ((fD c _ hd _).mono fun _ _ ⟨h1,h2⟩=>⟨h1,h2.symm⟩)));have qx:=ae (dy.out.drewN nq);have b0:(wr.drewN nq).cell? ⟨p,0,none⟩=some (.string s):=by rw[qx.out.z.cell];rfl
     have b1:(wr.drewN nq).cell? ⟨p,1,none⟩=some (.int .i64 (at':Int)):=by rw[qx.out.z.cell];rfl
     clear c0 c1 dy;generalize wr.drewN nq=w2 at qx b0 b1 ⊢
     cases cf<;>cases b
     all_goals
      go_wp2_with fail;go_quiet (fail);have KY:=ae (qx.out.drewN nq);generalize w2.drewN nq=w3 at KY ⊢
      go_wp2_with fail;exact⟨⟨m+1,_,by omega,by go_num,rfl,KY,HSP,HCF⟩,by simp[intOf];omega⟩
   ·have hEm:E-at'=m:=by
     rw[←gM.out];rcases dE (at'+m) s.size with h|h
     ·have bf:c=s[at'+m]:=by rw[hc];exact ay h
      rw[gA h (by rw[←bf];simpa using hn)];omega
     ·rw[bP (by rw[af];exact h)];omega
    obtain⟨hl,hd,RY⟩:=QC hn
    try have tj:=RY Hy.out
    have hTl:((s.data.toList.drop at').take m).length=m:=by rw[nO,nP,af];omega
    have Dl:=HQ.out;rw[hEm]at Dl;have HQ2:=ae Dl;clear HQ Dl hc hn gM hEm RY;go_wp2_with fail;go_quiet (first|(go_at_call 96;exact Calls.quiet_of_same ((HA.out _).mono fun _ _ ⟨h1,h2⟩=>⟨h1,h2.symm⟩))|(go_at_call 93;exact Calls.quiet_of_same ((dS c _ hl _).mono fun _ _ ⟨h1,h2⟩=>⟨h1,h2.symm⟩))|(go_at_call 95;exact Calls.quiet_of_same ((fD c _ hd _).mono fun _ _ ⟨h1,h2⟩=>⟨h1,h2.symm⟩)));have qx:=ae (dy.out.drewN nq);have b0:(wr.drewN nq).cell? ⟨p,0,none⟩=some (.string s):=by rw[qx.out.z.cell];rfl
    have b1:(wr.drewN nq).cell? ⟨p,1,none⟩=some (.int .i64 (at':Int)):=by rw[qx.out.z.cell];rfl
    have b2:(wr.drewN nq).cell? ⟨p,2,none⟩=some (.bool br):=by rw[qx.out.z.cell];rfl
    clear c0 c1 dy;generalize wr.drewN nq=w2 at qx b0 b1 b2 ⊢
    cases e3:((m:Int)==3)
    ·have hK:(cf=false∧bV br ((s.data.toList.drop at').take m)=1)∨(cf=true∧bV br ((s.data.toList.drop at').take m)=2):=by
      cases cf
      ·exact .inl ⟨rfl,GL hcf.out (by rw[hTl];have:=kE e3;omega)⟩
      ·exact .inr ⟨rfl,by rw[bV,az hcf.out]⟩
     have q1:(0≤(at':Int)+(m:Int))=True:=aD (by omega);have q2:((at':Int)+(m:Int)≤(s.size:Int))=True:=aD (by omega);have q3:((at':Int)≤(at':Int)+(m:Int))=True:=aD (by omega);have q4:((at':Int)+(m:Int)).toNat=at'+m:=by omega
     clear hTl hcf q1 q2 q3 q4;rcases hK with⟨rfl,hK⟩|⟨rfl,hK⟩
     all_goals
      have HK:=ae hK;clear hK;go_wp2_with fail
      first|refine(bQ w2 base p s at' 1 m _ _ (by rfl) (rfl) br sq v ts w0 hs (by omega) (by omega) qx.out hlen).mono ?_|refine(bQ w2 base p s at' 2 m _ _ (by rfl) (rfl) br sq v ts w0 hs (by omega) (by omega) qx.out hlen).mono ?_
      rintro e w5 ⟨rfl,iy⟩;have HP:=ae iy;clear iy;go_wp2_with fail;go_end0;rw[HQ2.out,HK.out];exact⟨rfl,HP.out⟩
    ·obtain rfl:m=3:=by have:=jn e3;omega
     generalize hM:((3:Nat):Int)=M;have e3':(M==3)=true:=by rw[←hM];rfl
     have q1:(0≤(at':Int)+M)=True:=aD (by omega);have q2:((at':Int)+M≤(s.size:Int))=True:=aD (by omega);have q3:((at':Int)≤(at':Int)+M)=True:=aD (by omega);have q4:((at':Int)+M).toNat=at'+3:=by omega
     have q5:IntKind.i64.wrap ((at':Int)+M)=(at':Int)+M:=by rw[ou];omega
     have HM:=ae hM;clear hM e3;have hx:(s.extract at' (at'+3)).size≤281474976710656:=by simp;omega
     have Ai:p<w2.heap.size:=qx.out.z.lt;have hxd:(s.extract at' (at'+3)).data.toList=(s.data.toList.drop at').take 3:=by rw[Lib.extract_data,show at'+3-at'=3 by omega]
     obtain⟨LS,hLS⟩: ∃LS:ByteArray,LS=⟨((s.extract at' (at'+3)).data.toList.map low).toArray⟩:=⟨_,rfl⟩;have hLT:LS.toList=((s.data.toList.drop at').take 3).map low:=by rw[hLS,nM,hxd]
     have sR:Hid (∀w:World,Calls prog 100 #[.string (s.extract at' (at'+3))] w fun e w'=>e= .returned (.string LS)∧Below w.heap.size w w'):=ae (fun w=>by rw[hLS];exact EA _ w (by unfold maxLen;omega) hx);obtain⟨i1,h1⟩: ∃b,(LS.toList==[105,110,102])=b:=⟨_,rfl⟩;obtain⟨i2,h2⟩: ∃b,(LS.toList==[110,97,110])=b:=⟨_,rfl⟩;have HK0:=ae (GM (br:=br) hcf.out hTl hLT h1 h2);clear hxd hLS hLT hcf hTl;go_wp2_with fail;go_region_held3 (fun w'=>w'.cell? ⟨p,0,none⟩=some (.string s)∧w'.cell? ⟨p,1,none⟩=some (.int .i64 (at':Int))) (first|go_keep) (first|(go_at_call 100;refine(sR.out _).mono ?_;rintro e w4 ⟨rfl,fe⟩;have k0:w4.cell? ⟨p,0,none⟩=some (.string s):=(fe.cell (p:=⟨p,0,none⟩) Ai).trans b0;have k1:w4.cell? ⟨p,1,none⟩=some (.int .i64 (at':Int)):=(fe.cell (p:=⟨p,1,none⟩) Ai).trans b1;have ml:=ae fe;clear fe));have fe:=((aU w2.heap.size w2).drew).trans ml.out;have Hz:Hid (eK base w0 p s at' br sq v ts w4):=ae ⟨qx.out.z.below fe Ai,eQ qx.out.own fe,qx.out.below.trans (fe.mono (jk (o7 qx.out.bp Ai))),qx.out.bp⟩;have k2:w4.cell? ⟨p,2,none⟩=some (.bool br):=by rw[Hz.out.z.cell];rfl
     clear fe ml b0 b1 b2 qx;have hK:=HK0.out;clear HK0;rcases hK with⟨rfl,hK⟩|⟨rfl,aQ,hK⟩|⟨rfl,aQ,rfl,hK⟩|⟨rfl,aQ,rfl,rfl,hK⟩|⟨rfl,aQ,rfl,rfl,hK⟩
     all_goals try exact absurd (hb.symm.trans aQ) (by decide)
     all_goals
      try clear aQ
      have HK:=ae hK;clear hK;go_wp2_with fail
      first|refine(bQ w4 base p s at' 1 3 _ _ (by rfl) (HM.out.symm) br sq v ts w0 hs (by omega) (by omega) Hz.out hlen).mono ?_|refine(bQ w4 base p s at' 2 3 _ _ (by rfl) (HM.out.symm) br sq v ts w0 hs (by omega) (by omega) Hz.out hlen).mono ?_|refine(bQ w4 base p s at' 3 3 _ _ (by rfl) (HM.out.symm) br sq v ts w0 hs (by omega) (by omega) Hz.out hlen).mono ?_
      rintro e w5 ⟨rfl,iy⟩;have HP:=ae iy;clear iy;go_wp2_with fail;go_end0;rw[HQ2.out,HK.out];exact⟨rfl,HP.out⟩
def F6 (w:World) (v:Value) (l:List UInt8):Prop:=
 ∃ao c,v= .slice ao l.length c∧ ∀j (h:j<l.length),∃g o,ao=some ⟨g,o,none⟩∧g<w.heap.size∧w.cell? ⟨g,o+j,none⟩=some (.int .u8 (l[j].toNat:Int))
def Tq (w:World) (v:Value) (gs:List (List UInt8)):Prop:=
 ∃ao c,v= .slice ao gs.length c∧ ∀j (h:j<gs.length),∃g o u,ao=some ⟨g,o,none⟩∧g<w.heap.size∧w.cell? ⟨g,o+j,none⟩=some u∧F6 w u gs[j]
theorem F6.below (h:F6 w v l) (hb:Below w.heap.size w w'):F6 w' v l:=by
 obtain⟨ao,c,rfl,hc⟩:=h;refine⟨ao,c,rfl,fun j hj=>?_⟩;obtain⟨g,o,rfl,hg,h1⟩:=hc j hj;exact⟨g,o,rfl,iv hg hb.size,(hb.cell (p:=⟨g,_,none⟩) hg).trans h1⟩
theorem Tq.below {w w':World} {v:Value} {gs:List (List UInt8)} (h:Tq w v gs) (hb:Below w.heap.size w w'):Tq w' v gs:=by
 obtain⟨ao,c,rfl,hc⟩:=h;refine⟨ao,c,rfl,fun j hj=>?_⟩;obtain⟨g,o,u,rfl,hg,h1,h2⟩:=hc j hj;exact⟨g,o,u,rfl,iv hg hb.size,(hb.cell (p:=⟨g,_,none⟩) hg).trans h1,h2.below hb⟩
def LW (w:World) (v:Value) (xs:List (Int×ByteArray×Int)):Prop:=
 (∃ao c,v= .slice ao 0 c∧xs=[])∨ ∃g o c,v= .slice (some ⟨g,o,none⟩) xs.length c∧rq w g o xs
theorem LW.below {w w':World} {v:Value} {xs:List (Int×ByteArray×Int)} (h:LW w v xs) (hb:Below w.heap.size w w'):LW w' v xs:=by
 rcases h with h|⟨g,o,c,h1,h2⟩
 ·exact .inl h
 ·exact .inr ⟨g,o,c,h1,h2.below hb⟩
abbrev Row:=Int×ByteArray×Int
def Row.cells (x:Row):List Value:=[.int .i64 x.1,.string x.2.1,.int .i64 x.2.2]
def QE (xs:List Row):List Value:=xs.flatMap Row.cells
theorem BJ {e:TypeId} (h:w.ownsRow base e size (.slice ao n c) m xs) (hm:0<m): ∃g,ao=some ⟨g,0,none⟩∧base≤g∧g<w.heap.size:=by
 rcases h.2 with⟨hv,h0⟩|⟨g,cap,cur,hv,hb,hg,_⟩
 ·omega
 ·injection hv with h1 h2 h3
  subst h1;exact⟨g,rfl,hb,(h.lt g rfl).2⟩
inductive dJ (b:Nat) (w:World):Nat→Value→List (Nat×PR)→Prop
 |mk (d:Nat) (v:Value) (r:PR) (ks:List Value) (cP:Nat→List (Nat×PR)):ba b w v r ks→(∀i (h:i<ks.length),dJ b w (d+1) ks[i] (cP i))→dJ b w d v ((d,r)::(List.range ks.length).flatMap cP)
theorem dJ.later (hb:Below w.heap.size w w') {d:Nat} {v:Value} {L:List (Nat×PR)} (h:dJ b w d v L):dJ b w' d v L:=by
 induction h with
 |mk d v r ks cP h0 _ ih=>exact .mk d v r ks cP (h0.below hb) fun i hi=>ih i hi
theorem ba.kids {b:Nat} {w:World} {v:Value} {r:PR} {ks:List Value} (h:ba b w v r ks):r.kids=(ks.length:Int):=by cases h<;>rfl
theorem ba.nk {b:Nat} {w:World} {v:Value} {r:PR} {ks:List Value} (h:ba b w v r ks):nk r=ks.length:=by
 unfold Go.Proofs.YtcdoilkjmjbgmaaGreatDoor.nk;rw[h.kids];rfl
theorem ba.lo {b b':Nat} {w:World} {v:Value} {r:PR} {ks:List Value} (h:ba b w v r ks) (hb:b'≤b):ba b' w v r ks:=by
 cases h with
 |number g yh hg t c0=>exact .number g (bR hb yh) hg t c0
 |text g yh hg t c0=>exact .text g (bR hb yh) hg t c0
 |selector g yh hg t off tim vm ms hm c0 c1 c2 c3=>exact .selector g (bR hb yh) hg t off tim vm ms (hm.lo hb) c0 c1 c2 c3
 |range g yh hg d p c0 c1=>exact .range g (bR hb yh) hg d p c0 c1
 |subquery g yh hg d s off tim t x c0 c1 c2 c3 c4=>exact .subquery g (bR hb yh) hg d s off tim t x c0 c1 c2 c3 c4
 |unary g yh hg o t x c0 c1=>exact .unary g (bR hb yh) hg o t x c0 c1
 |binary g yh hg o t u x y bo gi on vl vi ls inc card hl hi c0 c1 c2 c3 c4 c5 c6 c7 c8=>exact .binary g (bR hb yh) hg o t u x y bo gi on vl vi ls inc card (hl.lo hb) (hi.lo hb) c0 c1 c2 c3 c4 c5 c6 c7 c8
 |call g yh hg o va ks hk c0 c1=>exact .call g (bR hb yh) hg o va ks (by obtain⟨ao,c,h1,h2⟩:=hk;exact⟨ao,c,h1,fun j hj=>by obtain⟨g,o,a,l,u⟩:=h2 j hj;exact⟨g,o,a,bR hb l,u⟩⟩) c0 c1
 |aggr g yh hg o t x wo vl ls hl c0 c1 c2 c3 c4=>exact .aggr g (bR hb yh) hg o t x wo vl ls (hl.lo hb) c0 c1 c2 c3 c4
 |aggr2 g yh hg o t u x y wo vl ls hl c0 c1 c2 c3 c4=>exact .aggr2 g (bR hb yh) hg o t u x y wo vl ls (hl.lo hb) c0 c1 c2 c3 c4
theorem dJ.lo {b b':Nat} {w:World} (hb:b'≤b) {d:Nat} {v:Value} {L:List (Nat×PR)} (h:dJ b w d v L):dJ b' w d v L:=by
 induction h with
 |mk d v r ks cP h0 _ ih=>exact .mk d v r ks cP (h0.lo hb) fun i hi=>ih i hi
theorem Cr {d:Nat} {cP:Nat→List (Nat×PR)}: ∀n:Nat,(∀i,i<n→trees 1 ((cP i).map (·.2))=true∧aT [d] ((cP i).map (·.2))=(cP i).map (·.1))→
  trees n (((List.range n).flatMap cP).map (·.2))=true∧aT (List.replicate n d) (((List.range n).flatMap cP).map (·.2))=((List.range n).flatMap cP).map (·.1)
 |0,_=>⟨rfl,rfl⟩
 |n+1,h=>by
  obtain⟨h1,h2⟩:=Cr n fun i hi=>h i (by omega)
  obtain⟨h3,h4⟩:=h n (by omega);rw[qU,ym,vs,List.flatMap_nil,nR,nQ,nQ];refine⟨Co _ _ n 1 h1 h3,?_⟩;rw[List.replicate_succ',wQ _ _ _ _ (by rw[vq];exact h1),h2,h4]
theorem dJ.plain (h:dJ b w d v L):trees 1 (L.map (·.2))=true∧aT [d] (L.map (·.2))=L.map (·.1):=by
 induction h with
 |mk d v r ks cP h0 _ ih=>
  obtain⟨h1,h2⟩:=Cr ks.length fun i hi=>ih i hi
  rw[mq,mq];refine⟨?_,?_⟩
  ·show trees (nk r+0) _=true;rw[h0.nk];exact h1
  ·rw[aT,h0.nk,nR,h2]
def ng (d:Nat) (rs:List PR):List (Nat×PR):=(aT [d] rs).zip rs
theorem zip_map (L:List (Nat×PR)):(L.map (·.1)).zip (L.map (·.2))=L:=by
 induction L with
 |nil=>rfl
 |cons x L ih=>rw[mq,mq,List.zip_cons_cons,ih]
theorem dJ.ng {b:Nat} {w:World} {d:Nat} {v:Value} {L:List (Nat×PR)} (h:dJ b w d v L):L=ng d (L.map (·.2)):=by
 unfold Go.Proofs.YtcdoilkjmjbgmaaGreatDoor.ng;rw[h.plain.2,zip_map]
theorem Cs (h:trees 1 rs=true):(ng d rs).map (·.2)=rs:=by
 unfold ng;rw[List.map_snd_zip];have:=lS rs [d] h;omega
theorem GO (h:trees 1 rs=true):(ng d rs).map (·.1)=aT [d] rs:=by
 unfold ng;rw[List.map_fst_zip];have:=lS rs [d] h;omega
def eO (b:Nat) (w:World) (v:Value) (L:List (Nat×PR)):Prop:=(v= .nilIface∧L=[])∨dJ b w 1 v L
theorem eO.below (hb:Below w.heap.size w w') {v:Value} {L:List (Nat×PR)} (h:eO b w v L):eO b w' v L:=h.elim .inl fun h=>.inr (h.later hb)
theorem ba.iface {b:Nat} {w:World} {v:Value} {r:PR} {ks:List Value} (h:ba b w v r ks): ∃t g,v= .iface t (.pointer (some ⟨g,0,none⟩)):=by cases h<;>exact⟨_,_,rfl⟩
theorem dJ.iface {b:Nat} {w:World} {d:Nat} {v:Value} {L:List (Nat×PR)} (h:dJ b w d v L): ∃t g,v= .iface t (.pointer (some ⟨g,0,none⟩)):=by
 cases h with
 |mk d v r ks cP h0 _=>exact h0.iface
