import Derived.Test.YtibcjfjacielbaaGreatDoorP25
import Derived.Test.YtibcjfjacielbaaGreatDoorP33
import Derived.Defers
import Derived.Recover
/- Part of the proof of YtibcjfjacielbaaGreatDoorCardP: PaW LawD PaR PaS PaT PaU PaV. -/
set_option maxRecDepth 100000
set_option maxHeartbeats 4000000
set_option linter.unusedVariables false
set_option linter.unusedSimpArgs false
namespace Go.Proofs.YtibcjfjacielbaaGreatDoor
def opsL:List (List UInt8):=[[111,114],[97,110,100],[117,110,108,101,115,115],[61,61],[33,61],[60],[62],[60,61],[62,61],[43],[45],[42],[47],[37],[94]]
def opAt (i:Nat):List UInt8:=opsL.getD i []
def lvl (i:Nat):Nat:=if i<1 then 1 else if i<3 then 2 else if i<9 then 3 else if i<11 then 4 else if i<14 then 5 else 6
def midL (neg:Bool):List UInt8:=(if neg=true then[45]else[])++[50,46,53]
def flatL (i j:Nat) (neg:Bool):List UInt8:=[49]++[32]++opAt i++[32]++midL neg++[32]++opAt j++[32]++[48,120,51]
def leftB (i j:Nat) (neg:Bool):Bool:=if neg=true∧lvl j=6 then false else decide (lvl j<lvl i)||(decide (lvl i=lvl j)&&decide (lvl i≠6))
def brackL (i j:Nat) (neg:Bool):List UInt8:=
 if leftB i j neg=true then[40]++[49]++[32]++opAt i++[32]++midL neg++[41,32]++opAt j++[32]++[48,120,51]
 else[49]++[32]++opAt i++[32,40]++midL neg++[32]++opAt j++[32]++[48,120,51]++[41]
def readN (l:List UInt8):Option (List Tok×List PR):=match scanAll l with
 |(ts,none)=>match pars 60 (.bin 1) ts 0 with
  |some (x,[],_)=>if x.deep≤128∧ts.all (fun t=>decide (t.text.length≤100))=true then some (ts,x.rows)else none
  |_=>none
 |_=>none
def rowsN (l:List UInt8):List (Int×Int×List UInt8×List UInt8):=match readN l with
 |some (_,rs)=>rs.map fun r=>(r.kind,r.kids,r.op.data.toList,r.text.data.toList)
 |none=>[]
def bindOk (i j:Nat) (neg:Bool):Bool:=(readN (flatL i j neg)).isSome&&(readN (brackL i j neg)).isSome&&decide (rowsN (flatL i j neg)=rowsN (brackL i j neg))&&decide (5≤(rowsN (flatL i j neg)).length∧(rowsN (flatL i j neg)).length≤100)
theorem bind_false:((List.range 15).all fun i=>(List.range 15).all fun j=>bindOk i j false)=true:=by decide+kernel
theorem bind_true:((List.range 15).all fun i=>(List.range 15).all fun j=>bindOk i j true)=true:=by decide+kernel
theorem bind_all {i j:Nat} (hi:i<15) (hj:j<15) (neg:Bool):bindOk i j neg=true:=by
 cases neg with
 |false=>exact List.all_eq_true.1 (List.all_eq_true.1 bind_false i (List.mem_range.2 hi)) j (List.mem_range.2 hj)
 |true=>exact List.all_eq_true.1 (List.all_eq_true.1 bind_true i (List.mem_range.2 hi)) j (List.mem_range.2 hj)
end Go.Proofs.YtibcjfjacielbaaGreatDoor
set_option linter.unusedVariables false
set_option linter.unusedSimpArgs false
namespace Go.Proofs.YtibcjfjacielbaaGreatDoor
open Go.RowKit
theorem ScanPost.open {w w':World} {r:List Tok×Option (Nat×Nat)} {e:Ending} (h:ScanPost w r e w'):
  ∃ao c,e= .returned (.tuple #[.slice ao (outToks r).length c,.int .i64 (outAt r:Int),.int .i64 (outErr r:Int)])∧w'.ownsRow w.heap.size 81 3 (.slice ao (outToks r).length c) (outToks r).length (toksCells (outToks r))∧TokAt w' (.slice ao (outToks r).length c) ((outToks r).map tokV)∧Below w.heap.size w w':=by
 obtain⟨v,rfl,ho,hb⟩:=h;have hs:=tokSl_of_own ho;rcases ho.2 with⟨rfl,hn⟩|⟨g,cap,cur,rfl,_⟩
 ·rw[List.eq_nil_of_length_eq_zero hn]at*
  exact⟨none,0,rfl,ho,hs.at,hb⟩
 ·exact⟨_,cap,rfl,ho,hs.at,hb⟩
theorem scanF_len: ∀(m:Nat) (l:List UInt8) (p:Nat) (br sq:Bool),l.length≤m→(scanF l p br sq).1.length≤l.length∧ ∀t∈(scanF l p br sq).1,t.pos+t.text.length≤p+l.length
 |m,[],p,br,sq,_=>⟨Nat.zero_le _,fun t h=>by cases h⟩
 |0,c::r,p,br,sq,h=>by simp at h
 |m+1,c::r,p,br,sq,hm=>by
  have hne:c::r≠[]:=by simp
  generalize hl:c::r=x at*
  have hlen:=nil_len hne;cases hb:isBl (atB x 0)
  ·by_cases hc:(atB x 0).toNat=35
   ·have hr:=remark_pos hne;rw[scanF_remark hne hc];obtain⟨i1,i2⟩:=scanF_len m (x.drop (remark x)) (p+remark x) br sq (by simp;omega);rw[List.length_drop]at i1 i2;exact⟨by omega,fun t ht=>by have:=i2 t ht;omega⟩
   ·cases ht:tokenR x br sq with
    |bad e'=>rw[scanF_bad hne hb hc ht];exact⟨Nat.zero_le _,fun t h=>by cases h⟩
    |tok k n b q=>
     have hn:=tokenR_pos hne ht;rw[scanF_tok hne hb hc ht];obtain⟨i1,i2⟩:=scanF_len m (x.drop n) (p+n) b q (by simp;omega);rw[List.length_drop]at i1 i2;refine⟨by simp only[List.length_cons];omega,fun t ht=>?_⟩;rcases List.mem_cons.1 ht with rfl|ht
     ·simp only[List.length_take];omega
     ·have:=i2 t ht;omega
  ·rw[scanF_blank hne hb];obtain⟨i1,i2⟩:=scanF_len m (x.drop 1) (p+1) br sq (by simp;omega);rw[List.length_drop]at i1 i2;exact⟨by omega,fun t ht=>by have:=i2 t ht;omega⟩
theorem scanAll_len (l:List UInt8):(scanAll l).1.length≤l.length∧ ∀t∈(scanAll l).1,t.pos+t.text.length≤l.length:=by
 unfold scanAll;split
 ·exact⟨Nat.zero_le _,fun t h=>by cases h⟩
 ·have:=scanF_len l.length l 0 false false (Nat.le_refl _);rw[Nat.zero_add]at this;exact this
theorem drop_inj {ts:List Tok} {a b:Nat} (ha:a≤ts.length) (hb:b≤ts.length) (h:ts.drop a=ts.drop b):a=b:=by
 have:=congrArg List.length h;simp only[List.length_drop]at this;omega
def Did (w0:World) (p:Nat) (tv:Value) (en:Nat) (ts:List Tok) (f:Nat) (args:Array Value) (k o:Nat) (x:Th) (r:List Tok) (o':Nat):Prop:=
 ∀k',k'≤ts.length→r=ts.drop k'→ ∀W,PS w0 p tv en k o W→Calls Tryz.prog f args W (PPost w0 p tv en W x k' o')
theorem Did.of {w0:World} {p en k o o' k1 f:Nat} {tv:Value} {ts r:List Tok} {args:Array Value} {x:Th} (hk:k1≤ts.length) (hr:r=ts.drop k1) (h: ∀W,PS w0 p tv en k o W→Calls Tryz.prog f args W (PPost w0 p tv en W x k1 o')):Did w0 p tv en ts f args k o x r o':=by
 intro k' hk' hr' W hs;have:k'=k1:=drop_inj hk' hk (hr'.symm.trans hr);subst this;exact h W hs
structure All (w0:World) (p:Nat) (tv:Value) (en:Nat) (ts:List Tok) (n:Nat):Prop where
 bin: ∀least k o x r o',1≤least→least≤100→k≤ts.length→o≤300→pars n (.bin least) (ts.drop k) o=some (x,r,o')→Did w0 p tv en ts 130 #[pV p,.int .i64 (least:Int)] k o x r o'
 una: ∀k o x r o',k≤ts.length→o≤300→pars n .una (ts.drop k) o=some (x,r,o')→Did w0 p tv en ts 183 #[pV p] k o x r o'
 pow: ∀k o x r o',k≤ts.length→o≤300→pars n .pow (ts.drop k) o=some (x,r,o')→Did w0 p tv en ts 220 #[pV p] k o x r o'
 prim: ∀k o x r o',k≤ts.length→o≤300→pars n .prim (ts.drop k) o=some (x,r,o')→Did w0 p tv en ts 273 #[pV p] k o x r o'
theorem rest_at {n k o o':Nat} {m:Mode} {ts r:List Tok} {x:Th} (h:pars n m (ts.drop k) o=some (x,r,o')) (hk:k≤ts.length) (ho:o≤300): ∃k1,k1≤ts.length∧r=ts.drop k1∧o'≤300∧k≤k1:=by
 obtain⟨⟨j,hj,rfl⟩,ho'⟩:=pars_rest _ _ _ _ _ _ _ h ho;rw[List.length_drop]at hj;exact⟨k+j,by omega,by rw[List.drop_drop],ho',by omega⟩
theorem tk0_lt {ts:List Tok} {k:Nat} (h:tk0 (ts.drop k)≠0):k<ts.length:=by
 rcases Nat.lt_or_ge k ts.length with hk|hk
 ·exact hk
 ·rw[List.drop_eq_nil_of_le hk]at h;exact absurd rfl h
theorem pars_ok {w0 : World} {p en : Nat} {tv : Value} {ts : List Tok} (H : PH w0 p tv ts) : ∀ n, All w0 p tv en ts n := by
  intro n
  induction n using Nat.strongRecOn with
  | _ n ih =>
    cases n with
    | zero => exact ⟨fun _ _ _ _ _ _ _ _ _ _ h => by simp [pars] at h, fun _ _ _ _ _ _ _ h => by simp [pars] at h, fun _ _ _ _ _ _ _ h => by simp [pars] at h, fun _ _ _ _ _ _ _ h => by simp [pars] at h⟩
    | succ n =>
      have I:=ih n (Nat.lt_succ_self n)
      refine⟨?_,?_,?_,?_⟩
      · intro least k o x r o' hl hl2 hk ho h
        simp only[pars]at h
        split at h
        · cases h
        · rename_i x1 ts1 o1 h1
          obtain⟨k1,hk1,rfl,ho1,_⟩:=rest_at h1 hk ho
          obtain⟨R,X,Y,K,O,b1,b2,b3,b4,b5,b6,b7,b8,b9⟩:=loop_unroll _ _ _ _ _ _ _ _ h ho1
          rw[List.length_drop]at b7
          subst b1 b3 b4 b6
          refine Did.of (k1:=k1+K R) (by omega) (by rw[b5,List.drop_drop]) fun W hs=>?_
          refine pa_binary (K:=fun i=>k1+K i) (Y:=Y) H hs hl2 (fun W' hs'=>I.una _ _ _ _ _ hk ho h1 (k1+K 0) (by omega) (by rw[b2,Nat.add_zero]) W' hs') (by omega) ?_ (by simpa [List.drop_drop]using b9)
          intro i hi
          obtain⟨c1,c2,c3,c4,c5,c6,c7,n',c8,c9⟩:=b8 i hi
          rw[List.drop_drop]at c1 c2 c3 c7 c9
          rw[List.drop_drop,List.drop_drop]at c9
          rw[List.length_drop]at c5
          have hb5:=bindR_le (ts.drop (k1+K i))
          refine⟨⟨c1,c2⟩,by rw[Nat.add_assoc];exact c3,fun W' hs'=>?_,c7,by show k1+K i<k1+K (i+1);omega,by show k1+K (i+1)≤ts.length;omega⟩
          have:=(ih n' (by omega)).bin ((bindR (ts.drop (k1+K i))).1+1) (k1+(K i+1)) (O i) (Y i) _ _ (by omega) (by omega) (by omega) c6 c9 (k1+K (i+1)) (by omega) rfl W' hs'
          rwa [show (((bindR (ts.drop (k1+K i))).1+1:Nat):Int)=((bindR (ts.drop (k1+K i))).1:Int)+1 by omega]at this
      · intro k o x r o' hk ho h
        obtain⟨m,n',Z,a1,a2,a3,a4,a5,a6⟩:=una_unroll _ _ _ _ _ _ h
        subst a6
        simp only[List.drop_drop]at a2 a3 a4 a5
        have hkm : k + m ≤ ts.length := by
          rcases Nat.eq_zero_or_pos m with rfl|hpos
          · exact hk
          · have := sgn_lt (a2 (m - 1) (by omega))
            omega
        intro k' hk' hr' W hs
        exact pa_una H hs hk a2 a3 (fun W' hs'=>(ih n' a1).pow _ _ _ _ _ hkm ho a4 k' hk' hr' W' hs') a5
      · intro k o x r o' hk ho h
        simp only[pars]at h
        split at h
        · cases h
        · rename_i x1 ts1 o1 h1
          obtain⟨k1,hk1,rfl,ho1,_⟩:=rest_at h1 hk ho
          split at h
          · cases h
          · rename_i hends
            have hq: ∀W',PS w0 p tv en k o W'→Calls Tryz.prog 254 #[pV p] W' (PPost w0 p tv en W' x1 k1 o1):=fun W' hs'=>pa_postfix H hs' (fun W2 hs2=>I.prim _ _ _ _ _ hk ho h1 k1 hk1 rfl W2 hs2) hk1 (by simpa using hends)
            split at h
            · rename_i h94
              injection h with h;injection h with ha hb;injection hb with hb hc
              subst ha hb hc
              exact Did.of hk1 rfl fun W hs=>pa_pow0 H hs hq hk1 h94
            · rename_i h94
              have h94':isO [94] (ts.drop k1)=true:=by simpa using h94
              have hk1':=isO_lt h94'
              split at h
              · cases h
              · rename_i hbare
                split at h
                · cases h
                · rename_i y ts2 o2 h2
                  rw[List.drop_drop]at h2 hbare
                  obtain⟨k2,hk2,rfl,ho2,_⟩:=rest_at h2 hk1' ho1
                  split at h
                  · cases h
                  · rename_i z hz
                    injection h with h;injection h with ha hb;injection hb with hb hc
                    subst ha hb hc
                    exact Did.of hk2 rfl fun W hs=>pa_pow1 H hs hq h94' (by simpa using hbare) (fun W' hs'=>I.una _ _ _ _ _ hk1' ho1 h2 k2 hk2 rfl W' hs') hz
      · intro k o x r o' hk ho h
        simp only[pars]at h
        split at h
        · rename_i hn
          have hlt:k<ts.length:=tk0_lt (by omega)
          injection h with h;injection h with ha hb;injection hb with hb hc
          subst ha hb hc
          exact Did.of (k1:=k+1) hlt (by rw[List.drop_drop]) fun W hs=>pa_num H hs hlt hn
        · split at h
          · rename_i h40
            have hlt:=isO_lt h40
            split at h
            · cases h
            · rename_i ho3
              split at h
              · cases h
              · rename_i x1 ts1 o1 h1
                rw[List.drop_drop]at h1
                obtain⟨k1,hk1,rfl,ho1,_⟩:=rest_at h1 hlt (by omega)
                split at h
                · rename_i h41
                  have hlt1:=isO_lt h41.1
                  injection h with h;injection h with ha hb;injection hb with hb hc
                  subst ha hb hc
                  exact Did.of (k1:=k1+1) hlt1 (by rw[List.drop_drop]) fun W hs=>pa_br H hs hlt h40 (by omega) (fun W' hs'=>pa_query H.hp hs' fun W2 hs2=>I.bin 1 _ _ _ _ _ (Nat.le_refl _) (by omega) hlt (by omega) h1 k1 hk1 rfl W2 hs2) hk1 h41.1 h41.2 ho1
                · cases h
          · split at h
            · rename_i hp
              have hlt:k<ts.length:=tk0_lt (by simp only[plainN,Bool.and_eq_true,beq_iff_eq]at hp;omega)
              injection h with h;injection h with ha hb;injection hb with hb hc
              subst ha hb hc
              exact Did.of (k1:=k+1) hlt (by rw[List.drop_drop]) fun W hs=>pa_name H hs hlt hp
            · cases h
theorem catch_idle (a b c:Value) (w:World):
  CallsD Tryz.prog 96 #[a,b,c] .returning w fun e u' w'=>e= .returned (.tuple #[])∧u'= .returning∧w'=w:=by
 refine callsD_of_wpS Tryz.func96 rfl fun c₀ cs hu=>?_
 apply wpS_seq;apply wpS_region;simp[wpOpsS,go_sem,recoverD,hu,Tryz.ntmps96,Exit.thenS];apply wpS_seq;apply wpS_region;simp[wpOpsS,go_sem,recoverD,hu,Exit.thenS];refine wpS_cond (t:=false) (by simp[Act.eval,Array.replicate]) ?_;simp only[Bool.false_eq_true,if_false];refine wpS_of_wp (wp_skip ?_);cases c₀
 simp_all [bodyPostS,results,Tryz.results96]
def ScanTo (w:World) (ts:List Tok) (e:Ending) (w':World):Prop:=
 ∃v,e= .returned (.tuple #[v,.int .i64 0,.int .i64 0])∧(∃ao c,v= .slice ao ts.length c)∧Below w.heap.size w w'∧ ∀w'',Agree w.heap.size w' w''→TS w'' v ts
def ReadPost (w:World) (x:Th) (e:Ending) (w':World):Prop:=
 ∃v,(∃tt g,v= .iface tt (.pointer (some ⟨g,0,none⟩)))∧e= .returned (.tuple #[.agg #[v],.int .i64 0,.int .i64 0])∧TA w.heap.size w' v x.rows∧Below w.heap.size w w'
theorem pa_read {W:World} {s:ByteArray} {ts:List Tok} {x:Th} {o':Nat} (hlen:s.size≤1099511627776) (hsc: ∀W',Below W.heap.size W W'→Calls Tryz.prog 49 #[.string s] W' (ScanTo W' ts)) (hsh:Short ts) (hts:ts.length≤1099511627776)
  (hq: ∀(w0 W':World) (p:Nat) (tv:Value),PH w0 p tv ts→PS w0 p tv s.size 0 0 W'→Calls Tryz.prog 79 #[pV p] W' (PPost w0 p tv s.size W' x ts.length o')) (hd:x.deep≤128):
  Calls Tryz.prog 51 #[.string s,.func (.func 79) #[] #[]] W (ReadPost W x):=by
 have hmf: ∀(fn:Fn) (first cap:Array Value) (w:World),(Instr.makeFunc fn first cap).run Tryz.prog w= .ok (.func fn first cap) w:=fun _ _ _ _=>rfl
 have HSC:=Lib.hid hsc;have HSH:=Lib.hid hsh;have HTS:=Lib.hid hts;have HQ:=Lib.hid hq;have HD:=Lib.hid hd;clear hsc hsh hts hq hd;simp only[pV]at HQ;obtain⟨W1,hW1⟩: ∃W1,W1=((W.alloc (.cells #[.nilIface] 26)).alloc (.cells #[.int .i64 0] 3)).alloc (.cells #[.int .i64 0] 27):=⟨_,rfl⟩;have hb1:Below W.heap.size W W1:=by rw[hW1];exact((((Below.refl _ W).alloc (Nat.le_refl _) _).alloc (by simp) _).alloc (by simp;omega) _)
 have hzA:Blk W1 W.heap.size 26 #[.nilIface]:=by rw[hW1];exact((Blk.new _ _ _).alloc _).alloc _
 have hzB:Blk W1 (W.heap.size+1) 3 #[.int .i64 0]:=by rw[hW1];simpa [Blk]using (Blk.new (W.alloc (.cells #[.nilIface] 26)) 3 #[.int .i64 0]).alloc (.cells #[.int .i64 0] 27)
 have hzC:Blk W1 (W.heap.size+1+1) 27 #[.int .i64 0]:=by rw[hW1];simpa [Blk]using (Blk.new ((W.alloc (.cells #[.nilIface] 26)).alloc (.cells #[.int .i64 0] 3)) 27 #[.int .i64 0])
 have hs1:W1.heap.size=W.heap.size+3:=by rw[hW1];simp
 have HW1:=Lib.hid hW1;have HB1:=Lib.hid hb1;have HZA:=Lib.hid hzA;have HZB:=Lib.hid hzB;have HZC:=Lib.hid hzC;have HS1:=Lib.hid hs1;clear hW1 hb1 hzA hzB hzC hs1;go_enter_defers Tryz.func51,Tryz.ntmps51;go_upto_region 1 with(fail)
 rw[←HW1.out];go_wp2_with fail;refine(HSC.out _ HB1.out).mono ?_;rintro e W2 ⟨v,rfl,⟨av,cv,rfl⟩,hb2,hag⟩;have HB2:=Lib.hid hb2;have HAG:=Lib.hid hag;have hA2:=HZA.out.below hb2 HZA.out.lt;have hB2:=HZB.out.below hb2 HZB.out.lt;have hC2:=HZC.out.below hb2 HZC.out.lt;have b0:W2.cell? ⟨W.heap.size+1,0,none⟩=some (.int .i64 0):=hB2.cell 0;have b1:=hB2.frozen 0;have d0:W2.cell? ⟨W.heap.size+1+1,0,none⟩=some (.int .i64 0):=hC2.cell 0;have d1:=hC2.frozen 0;have HA2:=Lib.hid hA2;have HB2':=Lib.hid hB2;have HC2:=Lib.hid hC2;clear hb2 hag hA2 hB2 hC2;go_upto_region 5 with(fail)
 obtain⟨W3,hW3⟩: ∃W3,W3=(W2.setCell ⟨W.heap.size+1,0,none⟩ (.int .i64 0)).setCell ⟨W.heap.size+1+1,0,none⟩ (.int .i64 0):=⟨_,rfl⟩;have hA3:Blk W3 W.heap.size 26 #[.nilIface]:=by rw[hW3];exact(HA2.out.far (p:=⟨W.heap.size+1,0,none⟩) (by show W.heap.size≠W.heap.size+1;omega) _).far (p:=⟨W.heap.size+1+1,0,none⟩) (by show W.heap.size≠W.heap.size+1+1;omega) _
 have hB3:Blk W3 (W.heap.size+1) 3 #[.int .i64 0]:=by rw[hW3];simpa using (HB2'.out.set_ 0 (.int .i64 0)).far (p:=⟨W.heap.size+1+1,0,none⟩) (by show W.heap.size+1≠W.heap.size+1+1;omega) _
 have hC3:Blk W3 (W.heap.size+1+1) 27 #[.int .i64 0]:=by rw[hW3];simpa using (HC2.out.far (p:=⟨W.heap.size+1,0,none⟩) (by show W.heap.size+1+1≠W.heap.size+1;omega) (.int .i64 0)).set_ 0 (.int .i64 0)
 have hs3:W3.heap.size=W2.heap.size:=by rw[hW3];simp
 have hg3:Below W.heap.size W W3:=by rw[hW3];exact((HB1.out.trans (HB2.out.mono HB1.out.size)).setCell (p:=⟨W.heap.size+1,0,none⟩) (Nat.le_succ _) _).setCell (p:=⟨W.heap.size+1+1,0,none⟩) (by show W.heap.size≤W.heap.size+1+1;omega) _
 have hts3:TS W3 (.slice av ts.length cv) ts:=HAG.out W3 (by
  refine⟨Nat.le_of_eq hs3.symm,fun k h1 h2=>?_⟩;have h3:=HS1.out;rw[hW3,Below.heap_setCell _ ⟨W.heap.size+1+1,0,none⟩ _ k (by show k≠W.heap.size+1+1;omega),Below.heap_setCell _ ⟨W.heap.size+1,0,none⟩ _ k (by show k≠W.heap.size+1;omega)])
 have hp3:Blk (W3.alloc (.cells #[.slice av ts.length cv,.int .i64 0,.int .i64 (s.size:Int),.int .i64 0] 155)) W3.heap.size 155 #[.slice av ts.length cv,.int .i64 0,.int .i64 (s.size:Int),.int .i64 0]:=Blk.new _ _ _;have hps:PS W3 W3.heap.size (.slice av ts.length cv) s.size 0 0 (W3.alloc (.cells #[.slice av ts.length cv,.int .i64 0,.int .i64 (s.size:Int),.int .i64 0] 155)):=⟨hp3,(Below.refl _ _).alloc (Nat.le_refl _) _⟩;have HQ1:=Lib.hid (HQ.out W3 _ W3.heap.size (.slice av ts.length cv) ⟨Nat.le_refl _,hts3,HSH.out⟩ hps);have HW3:=Lib.hid hW3;have HA3:=Lib.hid hA3;have HB3:=Lib.hid hB3;have HC3:=Lib.hid hC3;have HG3:=Lib.hid hg3;have HS3:=Lib.hid hs3;clear hW3 hA3 hB3 hC3 hs3 hg3 hts3 hp3 hps b0 b1 d0 d1;rw[←HW3.out];go_wp2_with fail;refine HQ1.out.mono ?_;intro e W5 hpp;obtain⟨tt,gg,sv,wv,rfl,hall,hsv,hwv,hgot⟩:=hpp.conc;have HALL:=Lib.hid hall;have HG:=Lib.hid hgot;clear hpp hall hsv hwv hgot;go_wp2_with (refine wpList_store_blk rfl 96 (.tmp 9) (.tmp 29) rfl W5.heap.size _ rfl rfl (Blk.new _ _ _) info_thing rfl HALL.out ?_);intro W6 hz6 hg6;have hb6:Below W5.heap.size W5 W6:=below_grow ((Below.refl W5.heap.size W5).alloc (Nat.le_refl _) _) hg6 (by simp) (Nat.le_refl _);have hg35:W3.grownBy W5 (some W3.heap.size):=grow_trans (World.grownBy_alloc W3 _ _) HG.out.went.2;have hg36:W3.grownBy W6 (some W3.heap.size):=grow_trans hg35 (grown_below hb6 _);have hl3:W.heap.size+3≤W3.heap.size:=by have:=HS1.out;have:=HS3.out;have:=HB2.out.size;omega
 have hA6:=HA3.out.grown hg36 (by intro e;injection e;omega);have hB6:=HB3.out.grown hg36 (by intro e;injection e;omega);have hC6:=HC3.out.grown hg36 (by intro e;injection e;omega);have hp6:=(HG.out.went.1.below hb6).z;have c0:W6.cell? ⟨W3.heap.size,0,none⟩=some (.slice av ts.length cv):=hp6.cell 0;have c1:W6.cell? ⟨W3.heap.size,1,none⟩=some (.int .i64 (ts.length:Int)):=hp6.cell 1;have c2:W6.cell? ⟨W5.heap.size,0,none⟩=some (.iface tt (.pointer (some ⟨gg,0,none⟩))):=hz6.cell 0;have c3:W6.cell? ⟨W5.heap.size,1,none⟩=some (.int .i64 (x.deep:Int)):=hz6.cell 1;have k0:W6.cell? ⟨W.heap.size,0,none⟩=some .nilIface:=hA6.cell 0;have k1:=hA6.frozen 0;have l0:W6.cell? ⟨W.heap.size+1,0,none⟩=some (.int .i64 0):=hB6.cell 0;have l1:=hB6.frozen 0;have m0:W6.cell? ⟨W.heap.size+1+1,0,none⟩=some (.int .i64 0):=hC6.cell 0;have m1:=hC6.frozen 0;have p1:((ts.length:Int)<(ts.length:Int))=False:=eq_false (by omega);have p2:((128:Int)<(x.deep:Int))=False:=eq_false (by have:=HD.out;omega);have HG36:=Lib.hid hg36;have HA6:=Lib.hid hA6;have HB6':=Lib.hid hB6;have HC6:=Lib.hid hC6;have HB6:=Lib.hid hb6;have HL3:=Lib.hid hl3;clear hz6 hg6 hb6 hg35 hg36 hA6 hB6 hC6 hp6 hl3;go_wp2_with fail;go_quiet (fail);rename_i nq;go_wp2_with fail;obtain⟨WF,hWF⟩: ∃WF,WF=((((W6.drewN nq).setCell ⟨W.heap.size,0,none⟩ (.iface tt (.pointer (some ⟨gg,0,none⟩)))).setCell ⟨W.heap.size+1,0,none⟩ (.int .i64 0)).setCell ⟨W.heap.size+1+1,0,none⟩ (.int .i64 0)):=⟨_,rfl⟩;have hBF:Below W.heap.size W WF:=by
  rw[hWF];have h6:Below W.heap.size W W6:=below_grow HG3.out HG36.out HG3.out.size (by have:=HL3.out;omega);exact(((h6.trans (Go.below_drewN ((Below.refl _ _).mono h6.size) _)).setCell (p:=⟨W.heap.size,0,none⟩) (Nat.le_refl _) _).setCell (p:=⟨W.heap.size+1,0,none⟩) (Nat.le_succ _) _).setCell (p:=⟨W.heap.size+1+1,0,none⟩) (by show W.heap.size≤W.heap.size+1+1;omega) _
 have hTF:TA W.heap.size WF (.iface tt (.pointer (some ⟨gg,0,none⟩))) x.rows:=TT.to HG.out.tree fun k hk hlt=>by
  have hl:=HL3.out;have hk2:W3.heap.size+1≤k:=by simpa using hk
  refine⟨by omega,?_⟩;rw[hWF,Below.heap_setCell _ ⟨W.heap.size+1+1,0,none⟩ _ k (by show k≠W.heap.size+1+1;omega),Below.heap_setCell _ ⟨W.heap.size+1,0,none⟩ _ k (by show k≠W.heap.size+1;omega),Below.heap_setCell _ ⟨W.heap.size,0,none⟩ _ k (by show k≠W.heap.size;omega)];exact((Go.below_drewN (Below.refl W6.heap.size W6) nq).block k (Nat.lt_of_lt_of_le hlt HB6.out.size)).trans (HB6.out.block k hlt)
 have h1:((W6.drewN nq).cell? ⟨W.heap.size,0,none⟩).isSome:=by simp[k0]
 have h2:((W6.drewN nq).cell? ⟨W.heap.size+1,0,none⟩).isSome:=by simp[l0]
 have h3:((W6.drewN nq).cell? ⟨W.heap.size+1+1,0,none⟩).isSome:=by simp[m0]
 have zA:Blk (W6.drewN nq) W.heap.size 26 #[.nilIface]:=HA6.out.drewN nq;have zB:Blk (W6.drewN nq) (W.heap.size+1) 3 #[.int .i64 0]:=HB6'.out.drewN nq;have zC:Blk (W6.drewN nq) (W.heap.size+1+1) 27 #[.int .i64 0]:=HC6.out.drewN nq;have r0:WF.cell? ⟨W.heap.size,0,none⟩=some (.iface tt (.pointer (some ⟨gg,0,none⟩))):=by
  have:=((zA.set_ 0 (.iface tt (.pointer (some ⟨gg,0,none⟩)))).far (p:=⟨W.heap.size+1,0,none⟩) (by show W.heap.size≠W.heap.size+1;omega) (.int .i64 0)).far (p:=⟨W.heap.size+1+1,0,none⟩) (by show W.heap.size≠W.heap.size+1+1;omega) (.int .i64 0);rw[hWF];simpa using this.cell 0
 have r1:WF.cell? ⟨W.heap.size+1,0,none⟩=some (.int .i64 0):=by
  have:=((zB.far (p:=⟨W.heap.size,0,none⟩) (by show W.heap.size+1≠W.heap.size;omega) (.iface tt (.pointer (some ⟨gg,0,none⟩)))).set_ 0 (.int .i64 0)).far (p:=⟨W.heap.size+1+1,0,none⟩) (by show W.heap.size+1≠W.heap.size+1+1;omega) (.int .i64 0);rw[hWF];simpa using this.cell 0
 have r2:WF.cell? ⟨W.heap.size+1+1,0,none⟩=some (.int .i64 0):=by
  have:=((zC.far (p:=⟨W.heap.size,0,none⟩) (by show W.heap.size+1+1≠W.heap.size;omega) (.iface tt (.pointer (some ⟨gg,0,none⟩)))).far (p:=⟨W.heap.size+1,0,none⟩) (by show W.heap.size+1+1≠W.heap.size+1;omega) (.int .i64 0)).set_ 0 (.int .i64 0);rw[hWF];simpa using this.cell 0
 rw[←hWF];have HF:Hid (Below W.heap.size W WF∧TA W.heap.size WF (.iface tt (.pointer (some ⟨gg,0,none⟩))) x.rows):=Lib.hid ⟨hBF,hTF⟩;clear hWF hBF hTF h1 h2 h3 zA zB zC c0 c1 c2 c3 k0 k1 l0 l1 m0 m1;refine leaves_cons (f:=96) (args:=#[.pointer (some ⟨W.heap.size,0,none⟩),.pointer (some ⟨W.heap.size+1,0,none⟩),.pointer (some ⟨W.heap.size+1+1,0,none⟩)]) (by simp) (by simp[go_sem]) ?_;refine(catch_idle _ _ _ _).mono ?_;rintro e u' w'' ⟨rfl,rfl,rfl⟩;simp[Leaves,settle,results,Tryz.results51,go_sem,r0,r1,r2];exact⟨_,⟨_,_,rfl⟩,rfl,HF.out.2,HF.out.1⟩
theorem pa_parse {W:World} {s:ByteArray} {x:Th} (hr: ∀W',Below W.heap.size W W'→Calls Tryz.prog 51 #[.string s,.func (.func 79) #[] #[]] W' (ReadPost W' x)):
  Calls Tryz.prog 44 #[.string s] W (ReadPost W x):=by
 have HR:=Lib.hid hr;clear hr;obtain⟨W1,hW1⟩: ∃W1,W1=W.alloc (.cells #[.nilIface] 26):=⟨_,rfl⟩;have hb1:Below W.heap.size W W1:=by rw[hW1];exact(Below.refl _ W).alloc (Nat.le_refl _) _
 have hz1:Blk W1 W.heap.size 26 #[.nilIface]:=by rw[hW1];exact Blk.new _ _ _
 have HW1:=Lib.hid hW1;have HB1:=Lib.hid hb1;have HZ1:=Lib.hid hz1;clear hW1 hb1 hz1;go_enter Tryz.func44,Tryz.ntmps44;go_upto_region 1 with(fail)
 rw[←HW1.out];go_wp2_with fail;refine(HR.out _ HB1.out).mono ?_;rintro e W2 ⟨v,⟨tt,gg,hv⟩,rfl,hta,hb2⟩;subst hv;have hz2:=HZ1.out.below hb2 HZ1.out.lt;have k0:W2.cell? ⟨W.heap.size,0,none⟩=some .nilIface:=hz2.cell 0;have k1:=hz2.frozen 0;have HZ2:=Lib.hid hz2;have HTA:=Lib.hid (And.intro hta hb2);clear hz2 hta hb2;go_wp2_with fail;obtain⟨WF,hWF⟩: ∃WF,WF=W2.setCell ⟨W.heap.size,0,none⟩ (.iface tt (.pointer (some ⟨gg,0,none⟩))):=⟨_,rfl⟩;have r0:WF.cell? ⟨W.heap.size,0,none⟩=some (.iface tt (.pointer (some ⟨gg,0,none⟩))):=by
  rw[hWF];simpa using (HZ2.out.set_ 0 (.iface tt (.pointer (some ⟨gg,0,none⟩)))).cell 0
 have hF:ReadPost W x (.returned (.tuple #[.agg #[.iface tt (.pointer (some ⟨gg,0,none⟩))],.int .i64 0,.int .i64 0])) WF:=by
  refine⟨_,⟨tt,gg,rfl⟩,rfl,TT.to HTA.out.1 fun k hk hlt=>⟨Nat.le_trans HB1.out.size hk,?_⟩,?_⟩
  ·have:=HZ1.out.lt;have hk2:W1.heap.size≤k:=hk;rw[hWF,Below.heap_setCell _ ⟨W.heap.size,0,none⟩ _ k (by show k≠W.heap.size;omega)]
  ·rw[hWF];exact(HB1.out.trans (HTA.out.2.mono HB1.out.size)).setCell (p:=⟨W.heap.size,0,none⟩) (Nat.le_refl _) _
 rw[←hWF];refine bodyPost_ret (v:=.tuple #[.agg #[.iface tt (.pointer (some ⟨gg,0,none⟩))],.int .i64 0,.int .i64 0]) (by simp[results,Tryz.results44,go_sem,r0]) rfl hF
theorem own_agree {w w':World} {b:Nat} {e:TypeId} {k n:Nat} {v:Value} {xs:List Value} (h:w.ownsRow b e k v n xs) (ha:Agree b w w'):w'.ownsRow b e k v n xs:=by
 refine⟨h.1,?_⟩;rcases h.2 with hn|⟨g,cap,cur,rfl,hb,hg,rest⟩
 ·exact .inl hn
 ·exact .inr ⟨g,cap,cur,rfl,hb,(ha.2 g hb (Array.getElem?_eq_some_iff.1 hg).1).trans hg,rest⟩
theorem scan_to {w:World} {s:ByteArray} {ts:List Tok} {T:Nat→World→Prop} (hT:NumT (fun _=>True) T) (hTw:T w.heap.size w) (hs:s.size≤281474976710) (hr:scanAll s.data.toList=(ts,none)) (hts:ts.length≤1099511627776):
  Calls Tryz.prog 49 #[.string s] w (ScanTo w ts):=by
 refine(lex_Scan hT w s hs (fun _ _ _=>trivial) hTw).mono ?_;intro e w' h;rw[hr]at h;obtain⟨ao,c,rfl,ho,_,hb⟩:=h.open;exact⟨_,rfl,⟨ao,c,rfl⟩,hb,fun w'' ha=>⟨(tokSl_of_own (own_agree ho ha)).at,hts⟩⟩
theorem parse_ok {W:World} {s:ByteArray} {ts:List Tok} {T:Nat→World→Prop} (hT:NumT (fun _=>True) T) (hTw: ∀W',Below W.heap.size W W'→T W'.heap.size W') (hs:s.size≤281474976710) (hr:scanAll s.data.toList=(ts,none)) (hsh:Short ts) (hts:ts.length≤1099511627776)
  {n o':Nat} {x:Th} (hp:pars n (.bin 1) ts 0=some (x,[],o')) (hd:x.deep≤128):
  Calls Tryz.prog 44 #[.string s] W (ReadPost W x):=by
 refine pa_parse fun W1 hb1=>pa_read (o':=o') (by omega) (fun W2 hb2=>scan_to hT (hTw _ (hb1.trans (hb2.mono hb1.size))) hs hr hts) hsh hts (fun w0 W' p tv H hps=>?_) hd
 exact pa_query H.hp hps fun W3 hs3=>(pars_ok H n).bin 1 0 0 x [] o' (Nat.le_refl _) (by omega) (Nat.zero_le _) (by omega) (by simpa using hp) ts.length (Nat.le_refl _) (by simp) W3 hs3
def levelN (x:Int):Int:=if x<1 then 1 else if x<3 then 2 else if x<9 then 3 else if x<11 then 4 else if x<14 then 5 else 6
theorem law_level (w:World) (x:Int):Calls Tryz.prog 48 #[.int .i64 x] w fun e w'=>e= .returned (.int .i64 (levelN x))∧w=w':=by
 unfold levelN;by_cases h1:x<1
 ·rw[if_pos h1];go_enter Tryz.func48,Tryz.ntmps48;go_wp2_with fail;go_ret;exact⟨rfl,rfl⟩
 rw[if_neg h1];by_cases h2:x<3
 ·rw[if_pos h2];go_enter Tryz.func48,Tryz.ntmps48;go_wp2_with fail;go_ret;exact⟨rfl,rfl⟩
 rw[if_neg h2];by_cases h3:x<9
 ·rw[if_pos h3];go_enter Tryz.func48,Tryz.ntmps48;go_wp2_with fail;go_ret;exact⟨rfl,rfl⟩
 rw[if_neg h3];by_cases h4:x<11
 ·rw[if_pos h4];go_enter Tryz.func48,Tryz.ntmps48;go_wp2_with fail;go_ret;exact⟨rfl,rfl⟩
 rw[if_neg h4];by_cases h5:x<14
 ·rw[if_pos h5];go_enter Tryz.func48,Tryz.ntmps48;go_wp2_with fail;go_ret;exact⟨rfl,rfl⟩
 rw[if_neg h5];go_enter Tryz.func48,Tryz.ntmps48;go_wp2_with fail;go_ret;exact⟨rfl,rfl⟩
def placeN (x n:Int):Int:=(if x<0 then-(x+1)else x).tmod n
theorem law_place (w:World) (x:Int) (h1: -9223372036854775808≤x) (h2:x≤9223372036854775807):Calls Tryz.prog 47 #[.int .i64 x,.int .i64 15] w fun e w'=>e= .returned (.int .i64 (placeN x 15))∧w=w':=by
 unfold placeN;by_cases h:x<0
 ·rw[if_pos h];have hr:0≤(-(x+1)).tmod 15∧(-(x+1)).tmod 15<15:=⟨Int.tmod_nonneg _ (by omega),Int.tmod_lt_of_pos _ (by decide)⟩;go_enter Tryz.func47,Tryz.ntmps47;go_wp2_with fail;go_ret;exact⟨by first|rfl|simp|(go_num),rfl⟩
 ·rw[if_neg h];have hr:0≤x.tmod 15∧x.tmod 15<15:=⟨Int.tmod_nonneg _ (by omega),Int.tmod_lt_of_pos _ (by decide)⟩;have he:x.tmod 15=x%15:=Int.tmod_eq_emod_of_nonneg (by omega);go_enter Tryz.func47,Tryz.ntmps47;go_wp2_with fail;go_ret;exact⟨by first|rfl|simp|(go_num),rfl⟩
end Go.Proofs.YtibcjfjacielbaaGreatDoor
