import Derived.Test.YtibcjfjacielbaaGreatDoorP24
import Derived.WalkMore
import Derived.ScopeJumps
import Derived.OwnWalk
/- Part of the proof of YtibcjfjacielbaaGreatDoorCardP: LexH. -/
set_option maxRecDepth 100000
set_option maxHeartbeats 4000000
set_option linter.unusedVariables false
set_option linter.unusedSimpArgs false
namespace Go.Proofs.YtibcjfjacielbaaGreatDoor
open Go.RowKit
theorem wp_scope_pass {P:Program} {a:Act} {w:World} {Q:Exit→Act→World→Prop} {c rest:Code} (l:Nat) (J:Act→World→Prop) (μ:Act→World→Nat) (hf:findLabel c l=some (Code.seq .skip rest))
  (pass: ∀a w,J a w→rest.wp P (Exit.jump l (fun a' w'=>J a' w'∧μ a' w'<μ a w) Q) a w)
  (first: ∀Q',(∀a w,J a w→rest.wp P Q' a w)→(∀e a w,(∀l',e≠.goto l')→Q e a w→Q' e a w)→c.wp P Q' a w):(Code.scope c).wp P Q a w:=by
 refine wp_scope_jumps l J μ hf (first (Exit.jump l J Q) (fun a w h=>?_) ?_) fun a w h=>wp_seq (wp_skip (pass a w h))
 ·refine wp_mono (pass a w h) fun e a' w' hq=>?_
  cases e with
  |goto l'=>exact⟨hq.1,hq.2.1⟩
  |normal=>exact hq
  |exit id=>exact hq
  |ret=>exact hq
  |panic ch=>exact hq
  |outgrown=>exact hq
 ·intro e a w he hq;cases e with
  |goto l'=>exact absurd rfl (he l')
  |normal=>exact hq
  |exit id=>exact hq
  |ret=>exact hq
  |panic ch=>exact hq
  |outgrown=>exact hq
theorem natAt_of {w:World} {p:Nat} {s:ByteArray} {at':Nat} {br sq:Bool} {v:Value} (h:ZAt w p s at' br sq v):natAt w p=at':=by
 unfold natAt;have:w.cell? ⟨p,1,none⟩=some (.int .i64 (at':Int)):=by rw[h.cell];rfl
 rw[this];simp
structure ScanI (T:Nat→World→Prop) (w:World) (p:Nat) (s:ByteArray) (R:List Tok×Option (Nat×Nat)) (at':Nat) (br sq:Bool) (v:Value) (ts:List Tok) (w':World):Prop where
 le:at'≤s.size
 z:ZAt w' p s at' br sq v
 own:w'.ownsRow w.heap.size 81 3 v ts.length (toksCells ts)
 below:Below w.heap.size w w'
 tab:T w.heap.size w'
 few:ts.length≤at'
 out:R=(ts++(scanF (s.data.toList.drop at') at' br sq).1,(scanF (s.data.toList.drop at') at' br sq).2)
def scanAll (l:List UInt8):List Tok×Option (Nat×Nat):=if 33554432<l.length then([],some (0,1))else scanF l 0 false false
def outToks (r:List Tok×Option (Nat×Nat)):List Tok:=match r.2 with|none=>r.1|some _=>[]
def outAt (r:List Tok×Option (Nat×Nat)):Nat:=match r.2 with|none=>0|some x=>x.1
def outErr (r:List Tok×Option (Nat×Nat)):Nat:=match r.2 with|none=>0|some x=>x.2
def ScanPost (w:World) (r:List Tok×Option (Nat×Nat)) (e:Ending) (w':World):Prop:=
 ∃v,e= .returned (.tuple #[v,.int .i64 (outAt r:Nat),.int .i64 (outErr r:Nat)])∧w'.ownsRow w.heap.size 81 3 v (outToks r).length (toksCells (outToks r))∧Below w.heap.size w w'
theorem ScanPost.bad {w w':World} {r:List Tok×Option (Nat×Nat)} {a k:Nat} (h:r.2=some (a,k)) (hb:Below w.heap.size w w'):ScanPost w r (.returned (.tuple #[.slice none 0 0,.int .i64 (a:Int),.int .i64 (k:Int)])) w':=by
 refine⟨.slice none 0 0,?_,?_,hb⟩
 ·rw[outAt,outErr,h]
 ·rw[outToks,h];exact World.ownsRow_nil _ _ _ _
theorem ScanPost.good {w w':World} {r:List Tok×Option (Nat×Nat)} {v:Value} (h:r.2=none) (ho:w'.ownsRow w.heap.size 81 3 v r.1.length (toksCells r.1)) (hb:Below w.heap.size w w'):ScanPost w r (.returned (.tuple #[v,.int .i64 0,.int .i64 0])) w':=by
 refine⟨v,?_,?_,hb⟩
 ·rw[outAt,outErr,h];rfl
 ·rw[outToks,h];exact ho
theorem indexByte_nl: ∀(l:List UInt8),Lib.indexByte l 10=if spanEnd notNl l 0<l.length then(spanEnd notNl l 0:Int)else-1
 |[]=>by simp[Lib.indexByte]
 |c::r=>by
  have ih:=indexByte_nl r;rw[Lib.indexByte];by_cases h:c=10
  ·subst h;have:spanEnd notNl (10::r) 0=0:=by simp[spanEnd,List.takeWhile_cons,notNl]
   rw[this,if_pos (by rfl),if_pos (by simp)];rfl
  ·have hn:notNl c=true:=by
    simp only[notNl,bne_iff_ne,ne_eq];intro e;exact h ((u8_eq (n:=10) (by omega)).2 e)
   have h1:spanEnd notNl (c::r) 0=spanEnd notNl r 0+1:=by simp[spanEnd,List.takeWhile_cons,hn]
   have hb:(c==10)=false:=by simp[h]
   have hl:(c::r).length=r.length+1:=rfl;rw[hb,h1,hl];by_cases h2:spanEnd notNl r 0<r.length
   ·have h3:spanEnd notNl r 0+1<r.length+1:=by omega
    have:((spanEnd notNl r 0:Int)== -1)=false:=by
     have h4: ¬(spanEnd notNl r 0:Int)= -1:=by omega
     exact beq_eq_false_iff_ne.2 h4
    rw[if_pos h2]at ih;rw[ih,this,if_pos h3];simp
   ·have h3: ¬spanEnd notNl r 0+1<r.length+1:=by omega
    rw[if_neg h2]at ih;rw[ih,if_neg h3];simp
theorem ScanI.move {ok:List UInt8→Prop} {T:Nat→World→Prop} (hT:NumT ok T) {w w':World} {p:Nat} {s:ByteArray} {R:List Tok×Option (Nat×Nat)} {at' n:Nat} {br sq:Bool} {v:Value} {ts:List Tok} (h:ScanI T w p s R at' br sq v ts w')
  (hp:w.heap.size≤p) (hn:at'+n≤s.size) (he:scanF (s.data.toList.drop at') at' br sq=scanF (s.data.toList.drop (at'+n)) (at'+n) br sq) (y:Int) (hy:y=((at'+n:Nat):Int)):
  ScanI T w p s R (at'+n) br sq v ts (w'.setCell ⟨p,1,none⟩ (.int .i64 y)):=by
 subst hy;have hb:=(Below.refl w.heap.size w').setCell (p:=⟨p,1,none⟩) hp (.int .i64 ((at'+n:Nat):Int));refine⟨hn,?_,own_setBlk h.own h.z (by decide) _,h.below.trans hb,hT.keep h.tab hb,by have:=h.few;omega,?_⟩
 ·have:=Blk.set_ h.z 1 (.int .i64 ((at'+n:Nat):Int));simpa [ZAt]using this
 ·rw[h.out,he]
def ScanJ (T:Nat→World→Prop) (w:World) (p:Nat) (s:ByteArray) (R:List Tok×Option (Nat×Nat)) (a':Act) (w':World):Prop:=
 ∃(at':Nat) (br sq:Bool) (v:Value) (ts:List Tok) (u:Nat→Value),a'={tmps:=#[.string s,undef,.slice none 0 0,.int .i64 0,.int .i64 0,.pointer (some ⟨p,0,none⟩),u 6,u 7,u 8,u 9,u 10,u 11,u 12,u 13,u 14,u 15,u 16,u 17,u 18,u 19,u 20,u 21,u 22,u 23,u 24,u 25,u 26,u 27,u 28,u 29,u 30,u 31,u 32,u 33,u 34,u 35,u 36,u 37,u 38,u 39,u 40,u 41,u 42,u 43,u 44,u 45,u 46,u 47,u 48,u 49,u 50,u 51,u 52,u 53,u 54,u 55,u 56,u 57,u 58,u 59,u 60,u 61,u 62,u 63,u 64,u 65,u 66,u 67,u 68,u 69,u 70,u 71,u 72,u 73,u 74,u 75,u 76],defers:=[]}∧ScanI T w p s R at' br sq v ts w'∧s.size≤33554432
theorem ScanJ.lay {T:Nat→World→Prop} {w:World} {p:Nat} {s:ByteArray} {R:List Tok×Option (Nat×Nat)} {a':Act} {w':World} {at':Nat} {br sq:Bool} {v:Value} {ts:List Tok}
  (hf:a'={tmps:=#[.string s,undef,.slice none 0 0,.int .i64 0,.int .i64 0,.pointer (some ⟨p,0,none⟩),a'.tmps.getD 6 undef,a'.tmps.getD 7 undef,a'.tmps.getD 8 undef,a'.tmps.getD 9 undef,a'.tmps.getD 10 undef,a'.tmps.getD 11 undef,a'.tmps.getD 12 undef,a'.tmps.getD 13 undef,a'.tmps.getD 14 undef,a'.tmps.getD 15 undef,a'.tmps.getD 16 undef,a'.tmps.getD 17 undef,a'.tmps.getD 18 undef,a'.tmps.getD 19 undef,a'.tmps.getD 20 undef,a'.tmps.getD 21 undef,a'.tmps.getD 22 undef,a'.tmps.getD 23 undef,a'.tmps.getD 24 undef,a'.tmps.getD 25 undef,a'.tmps.getD 26 undef,a'.tmps.getD 27 undef,a'.tmps.getD 28 undef,a'.tmps.getD 29 undef,a'.tmps.getD 30 undef,a'.tmps.getD 31 undef,a'.tmps.getD 32 undef,a'.tmps.getD 33 undef,a'.tmps.getD 34 undef,a'.tmps.getD 35 undef,a'.tmps.getD 36 undef,a'.tmps.getD 37 undef,a'.tmps.getD 38 undef,a'.tmps.getD 39 undef,a'.tmps.getD 40 undef,a'.tmps.getD 41 undef,a'.tmps.getD 42 undef,a'.tmps.getD 43 undef,a'.tmps.getD 44 undef,a'.tmps.getD 45 undef,a'.tmps.getD 46 undef,a'.tmps.getD 47 undef,a'.tmps.getD 48 undef,a'.tmps.getD 49 undef,a'.tmps.getD 50 undef,a'.tmps.getD 51 undef,a'.tmps.getD 52 undef,a'.tmps.getD 53 undef,a'.tmps.getD 54 undef,a'.tmps.getD 55 undef,a'.tmps.getD 56 undef,a'.tmps.getD 57 undef,a'.tmps.getD 58 undef,a'.tmps.getD 59 undef,a'.tmps.getD 60 undef,a'.tmps.getD 61 undef,a'.tmps.getD 62 undef,a'.tmps.getD 63 undef,a'.tmps.getD 64 undef,a'.tmps.getD 65 undef,a'.tmps.getD 66 undef,a'.tmps.getD 67 undef,a'.tmps.getD 68 undef,a'.tmps.getD 69 undef,a'.tmps.getD 70 undef,a'.tmps.getD 71 undef,a'.tmps.getD 72 undef,a'.tmps.getD 73 undef,a'.tmps.getD 74 undef,a'.tmps.getD 75 undef,a'.tmps.getD 76 undef],defers:=[]}) (h:ScanI T w p s R at' br sq v ts w') (hs:s.size≤33554432):ScanJ T w p s R a' w':=⟨at',br,sq,v,ts,fun i=>a'.tmps.getD i undef,hf,h,hs⟩
theorem lex_Scan {ok : List UInt8 → Prop} {T : Nat → World → Prop} (hT : NumT ok T) (w : World) (s : ByteArray) (hs : s.size ≤ 281474976710) (hok : ∀ k, NumOk ok (s.data.toList.drop k)) (hTw : T w.heap.size w) :
    Calls Tryz.prog 49 #[.string s] w (ScanPost w (scanAll s.data.toList)):=by
  obtain⟨p,hp⟩: ∃p,p=w.heap.size:=⟨_,rfl⟩
  obtain⟨R,hR⟩: ∃R,R=scanAll s.data.toList:=⟨_,rfl⟩
  rw[←hR]
  have hbp:w.heap.size≤p:=by omega
  have HP:=Lib.hid hp
  have HRR:=Lib.hid hR
  clear hp hR
  go_enter Tryz.func49,Tryz.ntmps49
  go_wp2_with fail
  refine wp_scope_pass 0 (ScanJ T w p s R) (fun _ w'=>s.size-natAt w' p) rfl ?_ ?_
  · rintro a' w' ⟨at', br, sq, v, ts, u, rfl, hI, hsz⟩
    have c1:w'.cell? ⟨p,1,none⟩=some (.int .i64 (at':Int)):=by rw[hI.z.cell];rfl
    have f1:w'.frozen? ⟨p,1,none⟩=false:=hI.z.frozen 1
    have hle:=hI.le
    have hmu:natAt w' p=at':=natAt_of hI.z
    rw[hmu]
    cases he:((at':Int)==(s.size:Int))
    · have hat : at' < s.size := by have : ¬ (at' : Int) = s.size := by simpa using he
                                    omega
      have hdl:at'<s.data.toList.length:=by rw[len_data];exact hat
      have hne : s.data.toList.drop at' ≠ [] := by
        intro h;have:=congrArg List.length h;simp at this;omega
      have ha0:atB (s.data.toList.drop at') 0=s[at']:=by rw[atB_drop,Nat.add_zero,atB_lt hat]
      have hadd:IntKind.i64.wrap ((at':Int)+1)=((at'+1:Nat):Int):=by rw[IntKind.wrap_i64];omega
      have q1:((at':Int)≤(s.size:Int))=True:=by simp;omega
      have hdd: ∀n,(s.data.toList.drop at').drop n=s.data.toList.drop (at'+n):=fun n=>by rw[List.drop_drop]
      have HI:=Lib.hid hI
      have HNE:=Lib.hid hne
      have HA:=Lib.hid ha0
      have HDD:=Lib.hid hdd
      clear hI hne ha0 hdd
      cases e9:((s[at'].toNat:Int)==9)
      · cases e10 : ((s[at'].toNat : Int) == 10)
        · cases e13 : ((s[at'].toNat : Int) == 13)
          · cases e32 : ((s[at'].toNat : Int) == 32)
            · cases e35 : ((s[at'].toNat : Int) == 35)
              · have hnb : isBl (atB (s.data.toList.drop at') 0) = false := by
                  rw[HA.out]
                  have h9:=neT e9;have h10:=neT e10;have h13:=neT e13;have h32:=neT e32
                  simp[isBl];omega
                have hn35:(atB (s.data.toList.drop at') 0).toNat≠35:=by rw[HA.out];have:=neT e35;omega
                have hfew:ts.length≤1099511627776:=by have:=HI.out.few;omega
                have HNB:=Lib.hid hnb
                have HN35:=Lib.hid hn35
                clear hnb hn35
                go_wp2_with fail
                refine(lex_token hT w' w.heap.size p s at' br sq v ts hs hat (hok at') HI.out.tab HI.out.z HI.out.own hfew hbp).mono ?_
                intro e w5 hp5
                cases hr:tokenR (s.data.toList.drop at') br sq with
                | bad k =>
                  rw[hr]at hp5
                  obtain⟨rfl,v5,hz5,ho5,hb5⟩:=hp5
                  have hk:=tokenR_err hr
                  have hk0:((k:Int) != 0)=true:=by simp;omega
                  have HB5:=Lib.hid (HI.out.below.trans hb5)
                  have g1:w5.cell? ⟨p,1,none⟩=some (.int .i64 (at':Int)):=by rw[hz5.cell];rfl
                  have ho:=HI.out.out
                  rw[scanF_bad HNE.out HNB.out HN35.out hr]at ho
                  have HR2:=Lib.hid (show R.2=some (at',k)by rw[ho])
                  clear hb5 ho5 hz5 ho hr hk
                  go_wp2_with fail
                  go_quiet (fail)
                  go_wp2_with fail
                  try simp only[Exit.jump]
                  go_ret3
                  exact ScanPost.bad HR2.out (Go.below_drewN HB5.out _)
                | tok k n b q =>
                  rw[hr]at hp5
                  obtain⟨rfl,v5,hz5,ho5,hb5⟩:=hp5
                  have hn:=tokenR_pos HNE.out hr
                  simp only[List.length_drop,len_data]at hn
                  have ho:=HI.out.out
                  rw[scanF_tok HNE.out HNB.out HN35.out hr,HDD.out]at ho
                  have hI5 : ScanI T w p s R (at' + n) b q v5 (ts ++ [⟨k, (s.data.toList.drop at').take n, at'⟩]) w5 := by
                    refine⟨by omega,hz5,?_,HI.out.below.trans hb5,hT.keep HI.out.tab hb5,?_,?_⟩
                    · exact ho5
                    · have := HI.out.few; simp; omega
                    · rw [ho]; simp
                  have HI5:=Lib.hid hI5
                  clear hz5 ho5 hb5 ho hr hI5
                  go_wp2_with fail
                  go_wp2
                  go_step3
                  refine⟨rfl,ScanJ.lay (by rfl) (HI5.out) hsz,?_⟩
                  rw[natAt_of HI5.out.z]
                  omega
              · obtain ⟨t, ht⟩ : ∃ t, t = s.extract at' s.size := ⟨_, rfl⟩
                have htd:t.data.toList=s.data.toList.drop at':=by rw[ht,extract_from]
                have hts:t.size=s.size-at':=by rw[ht];simp
                have hc35:(atB (s.data.toList.drop at') 0).toNat=35:=by rw[HA.out];have:=eqT e35;omega
                have hix:=indexByte_nl t.data.toList
                have hrl:=remark_pos HNE.out
                have hrk:remark (s.data.toList.drop at')=min (spanEnd notNl t.data.toList 0+1) t.size:=by rw[remark,←htd,len_data]
                have hle2:=spanEnd_le notNl t.data.toList 0 (Nat.zero_le _)
                rw[len_data]at hix hle2
                have HRM:=Lib.hid (scanF_remark HNE.out hc35 at' br sq)
                rw[HDD.out]at HRM
                have HT2:=Lib.hid ht
                clear ht htd
                by_cases hk:spanEnd notNl t.data.toList 0<t.size
                · rw [if_pos hk] at hix
                  have hrk2:remark (s.data.toList.drop at')=spanEnd notNl t.data.toList 0+1:=by omega
                  rw[hrk2]at HRM
                  clear hrk hrl hrk2
                  generalize spanEnd notNl t.data.toList 0=k at*
                  have a1:IntKind.i64.wrap ((k:Int)+1)=(k:Int)+1:=by rw[IntKind.wrap_i64];omega
                  have a2:IntKind.i64.wrap ((at':Int)+((k:Int)+1))=((at'+(k+1):Nat):Int):=by rw[IntKind.wrap_i64];omega
                  have a3:(0≤(k:Int))=True:=by simp
                  go_wp2_with (first|(go_at_call 91;rw[←HT2.out];refine(Tryz.strings_IndexByte t 10 _).mono ?_;rintro e w3 ⟨rfl,rfl⟩;simp only[show (10:Int).toNat.toUInt8=10 from rfl];rw[hix]))
                  go_step3
                  refine⟨rfl,ScanJ.lay (by rfl) (HI.out.move hT hbp (n:=k+1) (by omega) HRM.out _ (by omega)) hsz,?_⟩
                  rw[natAt_of (HI.out.move hT hbp (n:=k+1) (by omega) HRM.out _ (by omega)).z]
                  omega
                · rw [if_neg hk] at hix
                  have hrk2:remark (s.data.toList.drop at')=t.size:=by omega
                  rw[hrk2]at HRM
                  clear hrk hrl hrk2
                  go_wp2_with (first|(go_at_call 91;rw[←HT2.out];refine(Tryz.strings_IndexByte t 10 _).mono ?_;rintro e w3 ⟨rfl,rfl⟩;simp only[show (10:Int).toNat.toUInt8=10 from rfl];rw[hix]))
                  go_step3
                  refine⟨rfl,ScanJ.lay (by rfl) (HI.out.move hT hbp (n:=t.size) (by omega) HRM.out _ (by omega)) hsz,?_⟩
                  rw[natAt_of (HI.out.move hT hbp (n:=t.size) (by omega) HRM.out _ (by omega)).z]
                  omega
            · go_wp2_with fail
              go_wp2
              go_step3
              have hbl:isBl (atB (s.data.toList.drop at') 0)=true:=by rw[HA.out];have:=eqT e32;simp[isBl];omega
              refine⟨rfl,ScanJ.lay (by rfl) (HI.out.move hT hbp (n:=1) (by omega) (by rw[scanF_blank HNE.out hbl,HDD.out]) _ (by omega)) hsz,?_⟩
              rw[natAt_of (HI.out.move hT hbp (n:=1) (by omega) (by rw[scanF_blank HNE.out hbl,HDD.out]) _ (by omega)).z]
              omega
          · go_wp2_with fail
            go_wp2
            go_step3
            have hbl:isBl (atB (s.data.toList.drop at') 0)=true:=by rw[HA.out];have:=eqT e13;simp[isBl];omega
            refine⟨rfl,ScanJ.lay (by rfl) (HI.out.move hT hbp (n:=1) (by omega) (by rw[scanF_blank HNE.out hbl,HDD.out]) _ (by omega)) hsz,?_⟩
            rw[natAt_of (HI.out.move hT hbp (n:=1) (by omega) (by rw[scanF_blank HNE.out hbl,HDD.out]) _ (by omega)).z]
            omega
        · go_wp2_with fail
          go_wp2
          go_step3
          have hbl:isBl (atB (s.data.toList.drop at') 0)=true:=by rw[HA.out];have:=eqT e10;simp[isBl];omega
          refine⟨rfl,ScanJ.lay (by rfl) (HI.out.move hT hbp (n:=1) (by omega) (by rw[scanF_blank HNE.out hbl,HDD.out]) _ (by omega)) hsz,?_⟩
          rw[natAt_of (HI.out.move hT hbp (n:=1) (by omega) (by rw[scanF_blank HNE.out hbl,HDD.out]) _ (by omega)).z]
          omega
      · go_wp2_with fail
        go_wp2
        go_step3
        have hbl:isBl (atB (s.data.toList.drop at') 0)=true:=by rw[HA.out];have:=eqT e9;simp[isBl];omega
        refine⟨rfl,ScanJ.lay (by rfl) (HI.out.move hT hbp (n:=1) (by omega) (by rw[scanF_blank HNE.out hbl,HDD.out]) _ (by omega)) hsz,?_⟩
        rw[natAt_of (HI.out.move hT hbp (n:=1) (by omega) (by rw[scanF_blank HNE.out hbl,HDD.out]) _ (by omega)).z]
        omega
    · have hat : at' = s.size := by have : (at' : Int) = s.size := by simpa using he
                                    omega
      have c4:w'.cell? ⟨p,4,none⟩=some v:=by rw[hI.z.cell];rfl
      have HI:=Lib.hid hI
      clear hI
      go_wp2_with fail
      try simp only[Exit.jump]
      go_ret3
      have ho:=HI.out.out
      rw[hat,List.drop_of_length_le (by rw[len_data];omega),scanF_nil,List.append_nil]at ho
      have h2:R.2=none:=by rw[ho]
      have h1:R.1=ts:=by rw[ho]
      exact ScanPost.good h2 (by rw[h1];exact HI.out.own) HI.out.below
  · intro Q' hpass hQ'
    by_cases hlong:(33554432:Int)<(s.size:Int)
    · go_wp2_with fail
      refine hQ' _ _ _ (fun _=>by simp) ?_
      go_ret3
      have h2:R.2=some (0,1):=by rw[HRR.out,scanAll,if_pos (by rw[len_data];omega)]
      exact ScanPost.bad h2 (Below.refl _ _)
    · go_wp2_with fail
      go_wp2
      go_step3
      try simp only[Exit.then]
      rename_i K hK
      refine hK _ _ ?_
      obtain rfl:=HP.out
      have hb:=(Below.refl w.heap.size w).alloc (Nat.le_refl _) (.cells #[.string s,.int .i64 0,.bool false,.bool false,.slice none 0 0] 138)
      refine hpass _ _ (ScanJ.lay (at':=0) (br:=false) (sq:=false) (v:=.slice none 0 0) (ts:=[]) (by rfl) ⟨Nat.zero_le _,Blk.new w _ _,World.ownsRow_nil _ _ _ _,hb,hT.keep hTw hb,Nat.zero_le _,?_⟩ (by omega))
      rw[HRR.out,scanAll,if_neg (by rw[len_data];omega)];rfl
end Go.Proofs.YtibcjfjacielbaaGreatDoor
