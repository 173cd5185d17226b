import Derived.Test.YtcdoilkjmjbgmaaGreatDoorW08
/- Part of the proof of YtcdoilkjmjbgmaaGreatDoorCardX: RdN. -/
set_option maxRecDepth 100000
set_option maxHeartbeats 4000000
set_option linter.unusedVariables false
set_option linter.unusedSimpArgs false
namespace Go.Proofs.YtcdoilkjmjbgmaaGreatDoor
open Go.RowKit
open Go.Proofs.Tryz
variable {br cf i1 i2 col:Bool} {l:List UInt8} {LS:ByteArray} {c:UInt8}
theorem G4 (hc:l.contains 58=cf) (hl:l.length=3) (hL:LS.toList=l.map low) (h1:(LS.toList==[105,110,102])=i1) (h2:(LS.toList==[110,97,110])=i2):
  (cf=true∧bR br l=2)∨(cf=false∧br=true∧bR br l=1)∨(cf=false∧br=false∧i1=true∧bR br l=3)∨(cf=false∧br=false∧i1=false∧i2=true∧bR br l=3)∨(cf=false∧br=false∧i1=false∧i2=false∧bR br l=1):=by
 cases cf
 ·have h:=DW (br:=br) hc hl;rw[←hL,h1,h2]at h;rw[h];cases br<;>cases i1<;>cases i2<;>simp
 ·exact .inl ⟨rfl,by rw[bR,ar hc]⟩
theorem G5 (h:bg col c=true):letter c=true∨(letter c=false∧digit c=true)∨(letter c=false∧digit c=false∧((c.toNat:Int)==58)=true∧col=true):=by
 cases hl:letter c
 ·cases hd:digit c
  ·simp[bg,hl,hd]at h;exact .inr (.inr ⟨rfl,rfl,cn.2 (by omega),h.1⟩)
  ·exact .inr (.inl ⟨rfl,rfl⟩)
 ·exact .inl rfl
theorem QX (h: ¬bg col c=true):letter c=false∧digit c=false∧(col=true→((c.toNat:Int)==58)=false):=by
 simp[bg]at h;refine⟨h.1.1,h.1.2,fun hc=>bK.2 ?_⟩;have:=h.2 hc;omega
theorem akD (x:UInt8):(x==58)=((x.toNat:Int)==58):=by
 rw[eE,cn,cn,←Ba,show (58:UInt8).toNat=58 from rfl];omega
theorem DZ (l:List UInt8) (c d:UInt8):(l++[c]).contains d=(l.contains d||(c==d)):=by
 simp only[List.contains_eq_any_beq,List.any_append,List.any_cons,List.any_nil,qG];rw[BEq.comm (a:=d)]
set_option maxHeartbeats 16000000 in
theorem QY (w:World) (base p:Nat) (s:ByteArray) (at':Nat) (br sq:Bool) (v:Value) (ts:List Tok) (w0:World) (hs:s.size≤281474976710656) (cB:at'<s.size) (h:eJ base w0 p s at' br sq v ts w) (hlen:ts.length≤1099511627776)
  (E:Nat) (hE:E=ae (bg (!br&& !sq)) s.data.toList at'):
  Calls prog 94 #[.pointer (some ⟨p,0,none⟩)] w (eR base w0 p s at' ts (.tok (bR br ((s.data.toList.drop at').take (E-at'))) (E-at') br sq)):=by
 obtain⟨col,F5⟩: ∃c,c=(!br&& !sq):=⟨_,rfl⟩;rw[←F5]at hE;have H4:(br=false∧sq=false∧col=true)∨(br=false∧sq=true∧col=false)∨(br=true∧sq=false∧col=false)∨(br=true∧sq=true∧col=false):=by
  rw[F5];cases br<;>cases sq<;>simp
 have c0:w.cell? ⟨p,0,none⟩=some (.string s):=by rw[h.z.cell];rfl
 have c1:w.cell? ⟨p,1,none⟩=some (.int .i64 (at':Int)):=by rw[h.z.cell];rfl
 have c2:w.cell? ⟨p,2,none⟩=some (.bool br):=by rw[h.z.cell];rfl
 have c3:w.cell? ⟨p,3,none⟩=some (.bool sq):=by rw[h.z.cell];rfl
 have H:=aa h;have HE:=aa hE;obtain⟨Q,hQ⟩: ∃Q:Ending→World→Prop,Q=eR base w0 p s at' ts (.tok (bR br ((s.data.toList.drop at').take (E-at'))) (E-at') br sq):=⟨_,rfl⟩;rw[←hQ];have HQ:=aa hQ;clear h hE hQ F5;go_enter func94,ntmps94;rcases H4 with⟨hb,hq,nu⟩|⟨hb,hq,nu⟩|⟨hb,hq,nu⟩|⟨hb,hq,nu⟩
 all_goals
  have Ii:=aa nu;clear nu;go_wp2_with fail;go_loopw [3,4] (fun t u wr=> ∃(m:Nat) (cf:Bool),at'+m≤s.size∧t= .int .i64 (m:Int)∧u= .bool cf∧Hid (eJ base w0 p s at' br sq v ts wr)∧Hid (ae (bg col) s.data.toList (at'+m)=E)∧Hid (((s.data.toList.drop at').take m).contains 58=cf)) (fun t _ _=>s.size-(intOf t).toNat)
  case atStart=>exact⟨0,false,by omega,rfl,rfl,H,aa HE.out.symm,aa rfl⟩
  case round=>
   obtain⟨m,cf,hm,rfl,rfl,cA,gJ,hcf⟩:=hrel;clear c0 c1 c2 c3;have c0:wr.cell? ⟨p,0,none⟩=some (.string s):=by rw[cA.out.z.cell];rfl
   have c1:wr.cell? ⟨p,1,none⟩=some (.int .i64 (at':Int)):=by rw[cA.out.z.cell];rfl
   obtain⟨c,hc⟩: ∃c,c=an s.data.toList (at'+m):=⟨_,rfl⟩;have HA:Hid (∀w,Calls prog 96 #[.string s,.int .i64 ((at':Int)+(m:Int))] w fun e w'=>e= .returned (.int .u8 (c.toNat:Int))∧w=w'):=aa (fun w=>vS s _ (at'+m) (by omega) c hc.symm w (by unfold maxLen;omega));by_cases hn:bg col c=true
   ·have au:at'+m<s.size:=by
     rcases dD (at'+m) s.size with h|h
     ·exact h
     ·exfalso;have h0:c=0:=by rw[hc];exact Bs (by rw[ab];exact h)
      rw[h0]at hn;revert hn;cases col<;>decide
    have aZ:c=s[at'+m]:=by rw[hc];exact aq au
    have Xp:=aa ((gB au (aZ▸hn)).trans gJ.out);have htk:(s.data.toList.drop at').take (m+1)=(s.data.toList.drop at').take m++[c]:=by
     rw[jM (by rw[mY,ab];omega)]
     congr 1
     rw[vs,aZ]
     congr 1
     all_goals exact gl _ _ _
    obtain⟨b,e59⟩: ∃b,((s[at'+m].toNat:Int)==58)=b:=⟨_,rfl⟩;have HCF:Hid (((s.data.toList.drop at').take (m+1)).contains 58=(cf||b)):=aa (by
     rw[htk,DZ,hcf.out,akD,aZ,e59])
    have p2:(at':Int)+(m:Int)<(s.size:Int):=by omega
    have p3:0≤(at':Int)+(m:Int):=by omega
    have agE:=G5 hn;clear aZ htk gJ hc hn hcf;rcases agE with hl|⟨hl,hd⟩|⟨hl,hd,tx,P7⟩
    all_goals try exact absurd (Ii.out.symm.trans P7) (by decide)
    all_goals
     try clear P7
     go_wp2_with fail;go_quiet (first|(go_at_call 96;exact Calls.quiet_of_same ((HA.out _).mono fun _ _ ⟨h1,h2⟩=>⟨h1,h2.symm⟩))|(go_at_call 93;exact Calls.quiet_of_same ((dU c _ hl _).mono fun _ _ ⟨h1,h2⟩=>⟨h1,h2.symm⟩))|(go_at_call 95;exact Calls.quiet_of_same ((fB c _ hd _).mono fun _ _ ⟨h1,h2⟩=>⟨h1,h2.symm⟩)));have nt:=aa (cA.out.drewN nq);have b0:(wr.drewN nq).cell? ⟨p,0,none⟩=some (.string s):=by rw[nt.out.z.cell];rfl
     have b1:(wr.drewN nq).cell? ⟨p,1,none⟩=some (.int .i64 (at':Int)):=by rw[nt.out.z.cell];rfl
     clear c0 c1 cA;generalize wr.drewN nq=w2 at nt b0 b1 ⊢
     cases cf<;>cases b
     all_goals
      go_wp2_with fail;go_quiet (fail);have Dw:=aa (nt.out.drewN nq);generalize w2.drewN nq=w3 at Dw ⊢
      go_wp2_with fail;exact⟨⟨m+1,_,by omega,by go_num,rfl,Dw,Xp,HCF⟩,by simp[intOf];omega⟩
   ·have hEm:E-at'=m:=by
     rw[←gJ.out];rcases dD (at'+m) s.size with h|h
     ·have aZ:c=s[at'+m]:=by rw[hc];exact aq h
      rw[gC h (by rw[←aZ];simpa using hn)];omega
     ·rw[bO (by rw[ab];exact h)];omega
    obtain⟨hl,hd,Sk⟩:=QX hn
    try have tx:=Sk Ii.out
    have hTl:((s.data.toList.drop at').take m).length=m:=by rw[nZ,mY,ab];omega
    have Dx:=HQ.out;rw[hEm]at Dx;have HQ2:=aa Dx;clear HQ Dx hc hn gJ hEm Sk;go_wp2_with fail;go_quiet (first|(go_at_call 96;exact Calls.quiet_of_same ((HA.out _).mono fun _ _ ⟨h1,h2⟩=>⟨h1,h2.symm⟩))|(go_at_call 93;exact Calls.quiet_of_same ((dU c _ hl _).mono fun _ _ ⟨h1,h2⟩=>⟨h1,h2.symm⟩))|(go_at_call 95;exact Calls.quiet_of_same ((fB c _ hd _).mono fun _ _ ⟨h1,h2⟩=>⟨h1,h2.symm⟩)));have nt:=aa (cA.out.drewN nq);have b0:(wr.drewN nq).cell? ⟨p,0,none⟩=some (.string s):=by rw[nt.out.z.cell];rfl
    have b1:(wr.drewN nq).cell? ⟨p,1,none⟩=some (.int .i64 (at':Int)):=by rw[nt.out.z.cell];rfl
    have b2:(wr.drewN nq).cell? ⟨p,2,none⟩=some (.bool br):=by rw[nt.out.z.cell];rfl
    clear c0 c1 cA;generalize wr.drewN nq=w2 at nt b0 b1 b2 ⊢
    cases e3:((m:Int)==3)
    ·have hK:(cf=false∧bR br ((s.data.toList.drop at').take m)=1)∨(cf=true∧bR br ((s.data.toList.drop at').take m)=2):=by
      cases cf
      ·exact .inl ⟨rfl,GX hcf.out (by rw[hTl];have:=kA e3;omega)⟩
      ·exact .inr ⟨rfl,by rw[bR,ar hcf.out]⟩
     have q1:(0≤(at':Int)+(m:Int))=True:=az (by omega);have q2:((at':Int)+(m:Int)≤(s.size:Int))=True:=az (by omega);have q3:((at':Int)≤(at':Int)+(m:Int))=True:=az (by omega);have q4:((at':Int)+(m:Int)).toNat=at'+m:=by omega
     clear hTl hcf q1 q2 q3 q4;rcases hK with⟨rfl,hK⟩|⟨rfl,hK⟩
     all_goals
      have HK:=aa hK;clear hK;go_wp2_with fail
      first|refine(bP w2 base p s at' 1 m _ _ (by rfl) (rfl) br sq v ts w0 hs (by omega) (by omega) nt.out hlen).mono ?_|refine(bP w2 base p s at' 2 m _ _ (by rfl) (rfl) br sq v ts w0 hs (by omega) (by omega) nt.out hlen).mono ?_
      rintro e w5 ⟨rfl,iI⟩;have HP:=aa iI;clear iI;go_wp2_with fail;go_end0;rw[HQ2.out,HK.out];exact⟨rfl,HP.out⟩
    ·obtain rfl:m=3:=by have:=js e3;omega
     generalize hM:((3:Nat):Int)=M;have e3':(M==3)=true:=by rw[←hM];rfl
     have q1:(0≤(at':Int)+M)=True:=az (by omega);have q2:((at':Int)+M≤(s.size:Int))=True:=az (by omega);have q3:((at':Int)≤(at':Int)+M)=True:=az (by omega);have q4:((at':Int)+M).toNat=at'+3:=by omega
     have q5:IntKind.i64.wrap ((at':Int)+M)=(at':Int)+M:=by rw[oG];omega
     have HM:=aa hM;clear hM e3;have hx:(s.extract at' (at'+3)).size≤281474976710656:=by simp;omega
     have Ap:p<w2.heap.size:=nt.out.z.lt;have hxd:(s.extract at' (at'+3)).data.toList=(s.data.toList.drop at').take 3:=by rw[Lib.extract_data,show at'+3-at'=3 by omega]
     obtain⟨LS,hLS⟩: ∃LS:ByteArray,LS=⟨((s.extract at' (at'+3)).data.toList.map low).toArray⟩:=⟨_,rfl⟩;have hLT:LS.toList=((s.data.toList.drop at').take 3).map low:=by rw[hLS,nW,hxd]
     have xb:Hid (∀w:World,Calls prog 100 #[.string (s.extract at' (at'+3))] w fun e w'=>e= .returned (.string LS)∧Below w.heap.size w w'):=aa (fun w=>by rw[hLS];exact EP _ w (by unfold maxLen;omega) hx);obtain⟨i1,h1⟩: ∃b,(LS.toList==[105,110,102])=b:=⟨_,rfl⟩;obtain⟨i2,h2⟩: ∃b,(LS.toList==[110,97,110])=b:=⟨_,rfl⟩;have HK0:=aa (G4 (br:=br) hcf.out hTl hLT h1 h2);clear hxd hLS hLT hcf hTl;go_wp2_with fail;go_region_held3 (fun w'=>w'.cell? ⟨p,0,none⟩=some (.string s)∧w'.cell? ⟨p,1,none⟩=some (.int .i64 (at':Int))) (first|go_keep) (first|(go_at_call 100;refine(xb.out _).mono ?_;rintro e w4 ⟨rfl,fa⟩;have k0:w4.cell? ⟨p,0,none⟩=some (.string s):=(fa.cell (p:=⟨p,0,none⟩) Ap).trans b0;have k1:w4.cell? ⟨p,1,none⟩=some (.int .i64 (at':Int)):=(fa.cell (p:=⟨p,1,none⟩) Ap).trans b1;have pB:=aa fa;clear fa));have fa:=((aS w2.heap.size w2).drew).trans pB.out;have Hu:Hid (eJ base w0 p s at' br sq v ts w4):=aa ⟨nt.out.z.below fa Ap,eL nt.out.own fa,nt.out.below.trans (fa.mono (jt (pI nt.out.bp Ap))),nt.out.bp⟩;have k2:w4.cell? ⟨p,2,none⟩=some (.bool br):=by rw[Hu.out.z.cell];rfl
     clear fa pB b0 b1 b2 nt;have hK:=HK0.out;clear HK0;rcases hK with⟨rfl,hK⟩|⟨rfl,aM,hK⟩|⟨rfl,aM,rfl,hK⟩|⟨rfl,aM,rfl,rfl,hK⟩|⟨rfl,aM,rfl,rfl,hK⟩
     all_goals try exact absurd (hb.symm.trans aM) (by decide)
     all_goals
      try clear aM
      have HK:=aa hK;clear hK;go_wp2_with fail
      first|refine(bP w4 base p s at' 1 3 _ _ (by rfl) (HM.out.symm) br sq v ts w0 hs (by omega) (by omega) Hu.out hlen).mono ?_|refine(bP w4 base p s at' 2 3 _ _ (by rfl) (HM.out.symm) br sq v ts w0 hs (by omega) (by omega) Hu.out hlen).mono ?_|refine(bP w4 base p s at' 3 3 _ _ (by rfl) (HM.out.symm) br sq v ts w0 hs (by omega) (by omega) Hu.out hlen).mono ?_
      rintro e w5 ⟨rfl,iI⟩;have HP:=aa iI;clear iI;go_wp2_with fail;go_end0;rw[HQ2.out,HK.out];exact⟨rfl,HP.out⟩
