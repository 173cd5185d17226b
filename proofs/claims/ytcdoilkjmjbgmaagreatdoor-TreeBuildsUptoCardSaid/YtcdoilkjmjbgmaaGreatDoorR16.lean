import Derived.Test.YtcdoilkjmjbgmaaGreatDoorR09
/- Part of the proof of YtcdoilkjmjbgmaaGreatDoorCardR: RdN. -/
set_option maxRecDepth 100000
set_option maxHeartbeats 4000000
set_option linter.unusedVariables false
set_option linter.unusedSimpArgs false
namespace Go.Proofs.YtcdoilkjmjbgmaaGreatDoor
open Go.RowKit
open Tryz
variable {br cf i1 i2 col:Bool} {l:List UInt8} {LS:ByteArray} {c:UInt8}
theorem Hg (hc:l.contains 58=cf) (hl:l.length=3) (hL:LS.toList=l.map low) (h1:(LS.toList==[105,110,102])=i1) (h2:(LS.toList==[110,97,110])=i2):
  (cf=true∧cg br l=2)∨(cf=false∧br=true∧cg br l=1)∨(cf=false∧br=false∧i1=true∧cg br l=3)∨(cf=false∧br=false∧i1=false∧i2=true∧cg br l=3)∨(cf=false∧br=false∧i1=false∧i2=false∧cg br l=1):=by
 cases cf
 ·have h:=D6 (br:=br) hc hl;rw[←hL,h1,h2]at h;rw[h];cases br<;>cases i1<;>cases i2<;>simp
 ·exact .inl ⟨rfl,by rw[cg,au hc]⟩
theorem Hh (h:bu col c=true):letter c=true∨(letter c=false∧digit c=true)∨(letter c=false∧digit c=false∧((c.toNat:Int)==58)=true∧col=true):=by
 cases hl:letter c
 ·cases hd:digit c
  ·simp[bu,hl,hd]at h;exact .inr (.inr ⟨rfl,rfl,cC.2 (by omega),h.1⟩)
  ·exact .inr (.inl ⟨rfl,rfl⟩)
 ·exact .inl rfl
theorem Q7 (h: ¬bu col c=true):letter c=false∧digit c=false∧(col=true→((c.toNat:Int)==58)=false):=by
 simp[bu]at h;refine⟨h.1.1,h.1.2,fun hc=>bN.2 ?_⟩;have:=h.2 hc;omega
theorem ajB (x:UInt8):(x==58)=((x.toNat:Int)==58):=by
 rw[eH,cC,cC,←Bh,show (58:UInt8).toNat=58 from rfl];omega
theorem D9 (l:List UInt8) (c d:UInt8):(l++[c]).contains d=(l.contains d||(c==d)):=by
 simp only[List.contains_eq_any_beq,List.any_append,List.any_cons,List.any_nil,qz];rw[BEq.comm (a:=d)]
set_option maxHeartbeats 16000000 in
theorem Q8 (w:World) (base p:Nat) (s:ByteArray) (at':Nat) (br sq:Bool) (v:Value) (ts:List Tok) (w0:World) (hs:s.size≤281474976710656) (cL:at'<s.size) (h:eO base w0 p s at' br sq v ts w) (hlen:ts.length≤1099511627776)
  (E:Nat) (hE:E=ae (bu (!br&& !sq)) s.data.toList at'):
  Calls prog 94 #[.pointer (some ⟨p,0,none⟩)] w (eY base w0 p s at' ts (.tok (cg br ((s.data.toList.drop at').take (E-at'))) (E-at') br sq)):=by
 obtain⟨col,Gh⟩: ∃c,c=(!br&& !sq):=⟨_,rfl⟩;rw[←Gh]at hE;have H4:(br=false∧sq=false∧col=true)∨(br=false∧sq=true∧col=false)∨(br=true∧sq=false∧col=false)∨(br=true∧sq=true∧col=false):=by
  rw[Gh];cases br<;>cases sq<;>simp
 have c0:w.cell? ⟨p,0,none⟩=some (.string s):=by rw[h.z.cell];rfl
 have c1:w.cell? ⟨p,1,none⟩=some (.int .i64 (at':Int)):=by rw[h.z.cell];rfl
 have c2:w.cell? ⟨p,2,none⟩=some (.bool br):=by rw[h.z.cell];rfl
 have c3:w.cell? ⟨p,3,none⟩=some (.bool sq):=by rw[h.z.cell];rfl
 have H:=aa h;have HE:=aa hE;obtain⟨Q,hQ⟩: ∃Q:Ending→World→Prop,Q=eY base w0 p s at' ts (.tok (cg br ((s.data.toList.drop at').take (E-at'))) (E-at') br sq):=⟨_,rfl⟩;rw[←hQ];have HQ:=aa hQ;clear h hE hQ Gh;go_enter func94,ntmps94;rcases H4 with⟨hb,hq,ng⟩|⟨hb,hq,ng⟩|⟨hb,hq,ng⟩|⟨hb,hq,ng⟩
 all_goals
  have Iu:=aa ng;clear ng;go_wp2_with fail;go_loopw [3,4] (fun t u wr=> ∃(m:Nat) (cf:Bool),at'+m≤s.size∧t= .int .i64 (m:Int)∧u= .bool cf∧Hid (eO base w0 p s at' br sq v ts wr)∧Hid (ae (bu col) s.data.toList (at'+m)=E)∧Hid (((s.data.toList.drop at').take m).contains 58=cf)) (fun t _ _=>s.size-(intOf t).toNat)
  case atStart=>exact⟨0,false,by omega,rfl,rfl,H,aa HE.out.symm,aa rfl⟩
  case round=>
   obtain⟨m,cf,hm,rfl,rfl,dz,gV,hcf⟩:=hrel;clear c0 c1 c2 c3;have c0:wr.cell? ⟨p,0,none⟩=some (.string s):=by rw[dz.out.z.cell];rfl
   have c1:wr.cell? ⟨p,1,none⟩=some (.int .i64 (at':Int)):=by rw[dz.out.z.cell];rfl
   obtain⟨c,hc⟩: ∃c,c=aq s.data.toList (at'+m):=⟨_,rfl⟩;have HA:Hid (∀w,Calls prog 96 #[.string s,.int .i64 ((at':Int)+(m:Int))] w fun e w'=>e= .returned (.int .u8 (c.toNat:Int))∧w=w'):=aa (fun w=>wz s _ (at'+m) (by omega) c hc.symm w (by unfold maxLen;omega));by_cases hn:bu col c=true
   ·have ax:at'+m<s.size:=by
     rcases dF (at'+m) s.size with h|h
     ·exact h
     ·exfalso;have h0:c=0:=by rw[hc];exact Bz (by rw[ab];exact h)
      rw[h0]at hn;revert hn;cases col<;>decide
    have bh:c=s[at'+m]:=by rw[hc];exact ar ax
    have HSP:=aa ((gH ax (bh▸hn)).trans gV.out);have htk:(s.data.toList.drop at').take (m+1)=(s.data.toList.drop at').take m++[c]:=by
     rw[jy (by rw[nV,ab];omega)]
     congr 1
     rw[vR,bh]
     congr 1
     all_goals exact gl _ _ _
    obtain⟨b,e59⟩: ∃b,((s[at'+m].toNat:Int)==58)=b:=⟨_,rfl⟩;have HCF:Hid (((s.data.toList.drop at').take (m+1)).contains 58=(cf||b)):=aa (by
     rw[htk,D9,hcf.out,ajB,bh,e59])
    have p2:(at':Int)+(m:Int)<(s.size:Int):=by omega
    have p3:0≤(at':Int)+(m:Int):=by omega
    have afM:=Hh hn;clear bh htk gV hc hn hcf;rcases afM with hl|⟨hl,hd⟩|⟨hl,hd,tK,Qh⟩
    all_goals try exact absurd (Iu.out.symm.trans Qh) (by decide)
    all_goals
     try clear Qh
     go_wp2_with fail;go_quiet (first|(go_at_call 96;exact Calls.quiet_of_same ((HA.out _).mono fun _ _ ⟨h1,h2⟩=>⟨h1,h2.symm⟩))|(go_at_call 93;exact Calls.quiet_of_same ((dW c _ hl _).mono fun _ _ ⟨h1,h2⟩=>⟨h1,h2.symm⟩))|(go_at_call 95;exact Calls.quiet_of_same ((fJ c _ hd _).mono fun _ _ ⟨h1,h2⟩=>⟨h1,h2.symm⟩)));have qJ:=aa (dz.out.drewN nq);have b0:(wr.drewN nq).cell? ⟨p,0,none⟩=some (.string s):=by rw[qJ.out.z.cell];rfl
     have b1:(wr.drewN nq).cell? ⟨p,1,none⟩=some (.int .i64 (at':Int)):=by rw[qJ.out.z.cell];rfl
     clear c0 c1 dz;generalize wr.drewN nq=w2 at qJ b0 b1 ⊢
     cases cf<;>cases b
     all_goals
      go_wp2_with fail;go_quiet (fail);have Ly:=aa (qJ.out.drewN nq);generalize w2.drewN nq=w3 at Ly ⊢
      go_wp2_with fail;exact⟨⟨m+1,_,by omega,by go_num,rfl,Ly,HSP,HCF⟩,by simp[intOf];omega⟩
   ·have hEm:E-at'=m:=by
     rw[←gV.out];rcases dF (at'+m) s.size with h|h
     ·have bh:c=s[at'+m]:=by rw[hc];exact ar h
      rw[gI h (by rw[←bh];simpa using hn)];omega
     ·rw[bR (by rw[ab];exact h)];omega
    obtain⟨hl,hd,Sk⟩:=Q7 hn
    try have tK:=Sk Iu.out
    have hTl:((s.data.toList.drop at').take m).length=m:=by rw[nU,nV,ab];omega
    have DJ:=HQ.out;rw[hEm]at DJ;have HQ2:=aa DJ;clear HQ DJ hc hn gV hEm Sk;go_wp2_with fail;go_quiet (first|(go_at_call 96;exact Calls.quiet_of_same ((HA.out _).mono fun _ _ ⟨h1,h2⟩=>⟨h1,h2.symm⟩))|(go_at_call 93;exact Calls.quiet_of_same ((dW c _ hl _).mono fun _ _ ⟨h1,h2⟩=>⟨h1,h2.symm⟩))|(go_at_call 95;exact Calls.quiet_of_same ((fJ c _ hd _).mono fun _ _ ⟨h1,h2⟩=>⟨h1,h2.symm⟩)));have qJ:=aa (dz.out.drewN nq);have b0:(wr.drewN nq).cell? ⟨p,0,none⟩=some (.string s):=by rw[qJ.out.z.cell];rfl
    have b1:(wr.drewN nq).cell? ⟨p,1,none⟩=some (.int .i64 (at':Int)):=by rw[qJ.out.z.cell];rfl
    have b2:(wr.drewN nq).cell? ⟨p,2,none⟩=some (.bool br):=by rw[qJ.out.z.cell];rfl
    clear c0 c1 dz;generalize wr.drewN nq=w2 at qJ b0 b1 b2 ⊢
    cases e3:((m:Int)==3)
    ·have hK:(cf=false∧cg br ((s.data.toList.drop at').take m)=1)∨(cf=true∧cg br ((s.data.toList.drop at').take m)=2):=by
      cases cf
      ·exact .inl ⟨rfl,G8 hcf.out (by rw[hTl];have:=kJ e3;omega)⟩
      ·exact .inr ⟨rfl,by rw[cg,au hcf.out]⟩
     have q1:(0≤(at':Int)+(m:Int))=True:=aA (by omega);have q2:((at':Int)+(m:Int)≤(s.size:Int))=True:=aA (by omega);have q3:((at':Int)≤(at':Int)+(m:Int))=True:=aA (by omega);have q4:((at':Int)+(m:Int)).toNat=at'+m:=by omega
     clear hTl hcf q1 q2 q3 q4;rcases hK with⟨rfl,hK⟩|⟨rfl,hK⟩
     all_goals
      have HK:=aa hK;clear hK;go_wp2_with fail
      first|refine(bS w2 base p s at' 1 m _ _ (by rfl) (rfl) br sq v ts w0 hs (by omega) (by omega) qJ.out hlen).mono ?_|refine(bS w2 base p s at' 2 m _ _ (by rfl) (rfl) br sq v ts w0 hs (by omega) (by omega) qJ.out hlen).mono ?_
      rintro e w5 ⟨rfl,iI⟩;have HP:=aa iI;clear iI;go_wp2_with fail;go_end0;rw[HQ2.out,HK.out];exact⟨rfl,HP.out⟩
    ·obtain rfl:m=3:=by have:=jx e3;omega
     generalize hM:((3:Nat):Int)=M;have e3':(M==3)=true:=by rw[←hM];rfl
     have q1:(0≤(at':Int)+M)=True:=aA (by omega);have q2:((at':Int)+M≤(s.size:Int))=True:=aA (by omega);have q3:((at':Int)≤(at':Int)+M)=True:=aA (by omega);have q4:((at':Int)+M).toNat=at'+3:=by omega
     have q5:IntKind.i64.wrap ((at':Int)+M)=(at':Int)+M:=by rw[xE];omega
     have HM:=aa hM;clear hM e3;have hx:(s.extract at' (at'+3)).size≤281474976710656:=by simp;omega
     have Ay:p<w2.heap.size:=qJ.out.z.lt;have hxd:(s.extract at' (at'+3)).data.toList=(s.data.toList.drop at').take 3:=by rw[Lib.extract_data,show at'+3-at'=3 by omega]
     obtain⟨LS,hLS⟩: ∃LS:ByteArray,LS=⟨((s.extract at' (at'+3)).data.toList.map low).toArray⟩:=⟨_,rfl⟩;have hLT:LS.toList=((s.data.toList.drop at').take 3).map low:=by rw[hLS,nS,hxd]
     have xB:Hid (∀w:World,Calls prog 100 #[.string (s.extract at' (at'+3))] w fun e w'=>e= .returned (.string LS)∧Below w.heap.size w w'):=aa (fun w=>by rw[hLS];exact EW _ w (by unfold maxLen;omega) hx);obtain⟨i1,h1⟩: ∃b,(LS.toList==[105,110,102])=b:=⟨_,rfl⟩;obtain⟨i2,h2⟩: ∃b,(LS.toList==[110,97,110])=b:=⟨_,rfl⟩;have HK0:=aa (Hg (br:=br) hcf.out hTl hLT h1 h2);clear hxd hLS hLT hcf hTl;go_wp2_with fail;go_region_held3 (fun w'=>w'.cell? ⟨p,0,none⟩=some (.string s)∧w'.cell? ⟨p,1,none⟩=some (.int .i64 (at':Int))) (first|go_keep) (first|(go_at_call 100;refine(xB.out _).mono ?_;rintro e w4 ⟨rfl,fg⟩;have k0:w4.cell? ⟨p,0,none⟩=some (.string s):=(fg.cell (p:=⟨p,0,none⟩) Ay).trans b0;have k1:w4.cell? ⟨p,1,none⟩=some (.int .i64 (at':Int)):=(fg.cell (p:=⟨p,1,none⟩) Ay).trans b1;have pb:=aa fg;clear fg));have fg:=((aV w2.heap.size w2).drew).trans pb.out;have Iv:Hid (eO base w0 p s at' br sq v ts w4):=aa ⟨qJ.out.z.below fg Ay,eV qJ.out.own fg,qJ.out.below.trans (fg.mono (ju (pw qJ.out.bp Ay))),qJ.out.bp⟩;have k2:w4.cell? ⟨p,2,none⟩=some (.bool br):=by rw[Iv.out.z.cell];rfl
     clear fg pb b0 b1 b2 qJ;have hK:=HK0.out;clear HK0;rcases hK with⟨rfl,hK⟩|⟨rfl,aN,hK⟩|⟨rfl,aN,rfl,hK⟩|⟨rfl,aN,rfl,rfl,hK⟩|⟨rfl,aN,rfl,rfl,hK⟩
     all_goals try exact absurd (hb.symm.trans aN) (by decide)
     all_goals
      try clear aN
      have HK:=aa hK;clear hK;go_wp2_with fail
      first|refine(bS w4 base p s at' 1 3 _ _ (by rfl) (HM.out.symm) br sq v ts w0 hs (by omega) (by omega) Iv.out hlen).mono ?_|refine(bS w4 base p s at' 2 3 _ _ (by rfl) (HM.out.symm) br sq v ts w0 hs (by omega) (by omega) Iv.out hlen).mono ?_|refine(bS w4 base p s at' 3 3 _ _ (by rfl) (HM.out.symm) br sq v ts w0 hs (by omega) (by omega) Iv.out hlen).mono ?_
      rintro e w5 ⟨rfl,iI⟩;have HP:=aa iI;clear iI;go_wp2_with fail;go_end0;rw[HQ2.out,HK.out];exact⟨rfl,HP.out⟩
