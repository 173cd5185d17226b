import Derived.Test.YtcdoilkjmjbgmaaGreatDoorS22
/- Part of the proof of YtcdoilkjmjbgmaaGreatDoorCardY: RdH TvA TvB. -/
set_option maxRecDepth 100000
set_option maxHeartbeats 4000000
set_option linter.unusedVariables false
set_option linter.unusedSimpArgs false
namespace Go.Proofs.YtcdoilkjmjbgmaaGreatDoor
open Go.RowKit
open Go.Proofs.Tryz
variable {l:List UInt8} {br sq:Bool} {c:UInt8} {j b:Nat} {w:World} {v:Value} {ss:List ByteArray} {ms:List PM} {s:ByteArray}
theorem JF (w:World) (base p:Nat) (s:ByteArray) (at':Nat) (br sq:Bool) (v:Value) (ts:List Tok) (w0:World) (hs:s.size≤281474976710656) (cI:at'<s.size) (h:eK base w0 p s at' br sq v ts w) (hlen:ts.length≤1099511627776)
  (hh:letter s[at']=true∨(s[at'].toNat=58∧(!br&& !sq)=true)):
  Calls prog 94 #[.pointer (some ⟨p,0,none⟩)] w (eV base w0 p s at' ts (aZ (s.data.toList.drop at') br sq)):=by
 have hT:=UT (l:=s.data.toList.drop at') (col:=(!br&& !sq)) rfl (by rw[gq,iz,ay cI];exact hh);rw[hT,GK];exact QD w base p s at' br sq v ts w0 hs cI h hlen _ rfl
theorem Cz (hc:au l 0=c) (hl:letter c=false) (RY:c.toNat≠58) (h:digit c=true∨(c.toNat=46∧digit (au l 1)=true)):aZ l br sq=bG l br sq:=by
 subst hc;have h2:digit (au l 0)=true∨((au l 0).toNat=46∧1<l.length∧digit (au l 1)=true):=by
  rcases h with h|⟨h,h'⟩
  ·exact .inl h
  ·refine .inr ⟨h,?_,h'⟩;rcases dE 1 l.length with h1|h1
   ·exact h1
   ·rw[Bm h1]at h';exact absurd h' (by decide)
 rw[aZ,hl,ah (by simp),ah (fun x=>RY x.1),az h2]
theorem Kx (hc:au l 0=c) (h:c.toNat=34∨c.toNat=39∨c.toNat=96):aZ l br sq=s6 l br sq:=by
 subst hc;have bf:au l 0=34∨au l 0=39∨au l 0=96:=by
  rcases h with h|h|h
  ·exact .inl (cJ (n:=34) (by omega) h)
  ·exact .inr (.inl (cJ (n:=39) (by omega) h))
  ·exact .inr (.inr (cJ (n:=96) (by omega) h))
 have h1:letter (au l 0)=false:=by rcases bf with e|e|e<;>(rw[e];decide)
 have h2:digit (au l 0)=false:=by rcases bf with e|e|e<;>(rw[e];decide)
 have h3:dC (au l 0)=true:=by rcases bf with e|e|e<;>(rw[e];decide)
 rw[aZ,h1,ah (by simp),ah (by rintro⟨x,_⟩;omega),h2,ah (fun x=>x.elim (fun y=>by cases y) (fun y=>by have:=y.1;omega)),az h3]
theorem L9 (hc:au l 0=c) (hl:letter c=false) (RY: ¬(c.toNat=58∧(!br&& !sq)=true)) (hd:digit c=false) (od: ¬(c.toNat=46∧digit (au l 1)=true)) (h1:c.toNat≠34) (h2:c.toNat≠39) (h3:c.toNat≠96):aZ l br sq=sc l br sq:=by
 subst hc;have hq: ¬dC (au l 0)=true:=by
  intro h;simp only[dC,tu,cx]at h;rcases h with(h|h)|h
  ·exact h1 (by rw[h];rfl)
  ·exact h2 (by rw[h];rfl)
  ·exact h3 (by rw[h];rfl)
 rw[aZ,hl,ah (by simp),ah RY,hd,ah (fun x=>x.elim (fun y=>by cases y) (fun y=>od ⟨y.1,y.2.2⟩)),ah hq]
theorem Re (c d:UInt8):(letter c=true)∨(letter c=false∧((c.toNat:Int)==58)=true∧digit c=false∧((c.toNat:Int)==46)=false∧((c.toNat:Int)==34)=false∧((c.toNat:Int)==39)=false∧((c.toNat:Int)==96)=false)∨(letter c=false∧((c.toNat:Int)==58)=false∧digit c=true)∨(letter c=false∧((c.toNat:Int)==58)=false∧digit c=false∧((c.toNat:Int)==46)=true∧((c.toNat:Int)==34)=false∧((c.toNat:Int)==39)=false∧((c.toNat:Int)==96)=false∧digit d=false)∨(letter c=false∧((c.toNat:Int)==58)=false∧digit c=false∧((c.toNat:Int)==46)=true∧((c.toNat:Int)==34)=false∧((c.toNat:Int)==39)=false∧((c.toNat:Int)==96)=false∧digit d=true)∨(letter c=false∧((c.toNat:Int)==58)=false∧digit c=false∧((c.toNat:Int)==46)=false∧((c.toNat:Int)==34)=true)∨(letter c=false∧((c.toNat:Int)==58)=false∧digit c=false∧((c.toNat:Int)==46)=false∧((c.toNat:Int)==34)=false∧((c.toNat:Int)==39)=true)∨(letter c=false∧((c.toNat:Int)==58)=false∧digit c=false∧((c.toNat:Int)==46)=false∧((c.toNat:Int)==34)=false∧((c.toNat:Int)==39)=false∧((c.toNat:Int)==96)=true)∨(letter c=false∧((c.toNat:Int)==58)=false∧digit c=false∧((c.toNat:Int)==46)=false∧((c.toNat:Int)==34)=false∧((c.toNat:Int)==39)=false∧((c.toNat:Int)==96)=false):=by
 cases hl:letter c
 ·by_cases tj:c.toNat=58
  ·simp[digit,tj]
  ·have n58:((c.toNat:Int)==58)=false:=bN.2 (by omega);cases hd:digit c
   ·by_cases se:c.toNat=46
    ·cases digit d<;>simp[se]
    ·have n46:((c.toNat:Int)==46)=false:=bN.2 (by omega);simp only[n58,n46];cases ((c.toNat:Int)==34)<;>cases ((c.toNat:Int)==39)<;>cases ((c.toNat:Int)==96)<;>simp
   ·simp[n58]
 ·exact .inl rfl
set_option maxHeartbeats 8000000 in
theorem VH (w:World) (s:ByteArray) (hs:s.size≤281474976710):
  Calls prog 73 #[.string s] w (fr w (eU s.data.toList)):=by
 obtain⟨R,hR⟩: ∃R,R=eU s.data.toList:=⟨_,rfl⟩;rw[←hR];by_cases afX:(33554432:Int)<(s.size:Int)
 ·have h2:R.2=some (0,1):=by rw[hR,eU,az (by rw[af];omega)]
  have H2:=ae h2;clear h2 hR;go_enter func73,ntmps73;go_wp2_with fail;refine cB (ic rfl _ _ _) rfl ?_;exact fr.bad H2.out (aU _ _)
 ·have hRR:R=cK s.data.toList 0 false false:=by rw[hR,eU,ah (by rw[af];omega)]
  have HR:=ae hRR;clear hR hRR;have Fy:=(aU w.heap.size w).alloc (aS _) (.cells #[.string s,.int .i64 0,.bool false,.bool false,.slice none 0 0,.int .i64 0] 151);have H0:Hid (eK w.heap.size w w.heap.size s 0 false false (.slice none 0 0) [] (w.alloc (.cells #[.string s,.int .i64 0,.bool false,.bool false,.slice none 0 0,.int .i64 0] 151))):=
   ae ⟨aM.new w _ _,sZ _ _ _ _,Fy,aS _⟩
  clear Fy;obtain⟨p,hp⟩: ∃p,p=w.heap.size:=⟨_,rfl⟩;go_enter func73,ntmps73;go_wp2_with fail;rw[←hp]at H0 ⊢
  have HP:=ae hp;clear hp;generalize (w.alloc (.cells #[.string s,.int .i64 0,.bool false,.bool false,.slice none 0 0,.int .i64 0] 151))=w1 at H0 ⊢
  go_loopw [6] (fun _ wr=> ∃(k:Nat) (br sq:Bool) (v:Value) (ts:List Tok),k≤s.size∧ts.length≤k∧Hid (eK p w p s k br sq v ts wr)∧Hid (R=(ts++(cK (s.data.toList.drop k) k br sq).1,(cK (s.data.toList.drop k) k br sq).2))) (fun _ wr=>s.size-nf wr p)
  case atStart=>exact⟨0,false,false,_,[],aV _,aV _,H0,ae (by rw[HR.out];rfl)⟩
  case round=>
   obtain⟨k0,br,sq,v,ts,lK,KV,dy,hR⟩:=hrel;clear H0 HR;have hmu:nf wr p=k0:=pM dy.out.z;have HMU:=ae hmu;clear hmu;go_wp2_with fail;refine(QB wr p p s k0 br sq v ts w (by omega) lK dy.out).mono ?_;rintro e w2 ⟨rfl,k,mP,zE,XU,hsc,uQ⟩;have HS:=ae XU;have HR:Hid (R=(ts++(cK (s.data.toList.drop k) k br sq).1,(cK (s.data.toList.drop k) k br sq).2)):=ae (by rw[hsc];exact hR.out);have NT:=ae uQ;clear XU hsc uQ dy hR;have c1:w2.cell? ⟨p,1,none⟩=some (.int .i64 (k:Int)):=by rw[HS.out.z.cell];rfl
   have c2:w2.cell? ⟨p,2,none⟩=some (.bool br):=by rw[HS.out.z.cell];rfl
   have c3:w2.cell? ⟨p,3,none⟩=some (.bool sq):=by rw[HS.out.z.cell];rfl
   have c4:w2.cell? ⟨p,4,none⟩=some v:=by rw[HS.out.z.cell];rfl
   by_cases aA:k<s.size
   ·obtain⟨oe,h35⟩:=NT.out aA;obtain⟨L,hL⟩: ∃L,L=s.data.toList.drop k:=⟨_,rfl⟩;have hLl:L.length=s.size-k:=by rw[hL,nP,af]
    have bW:L≠[]:=by intro e;rw[e]at hLl;simp at hLl;omega
    have xp:au L 0=s[k]:=by rw[hL,gq,iz,ay aA]
    have qR:au L 1=au s.data.toList (k+1):=by rw[hL,gq]
    rw[←hL]at HR;obtain⟨c,hc⟩: ∃c,s[k]=c:=⟨_,rfl⟩;obtain⟨d,hd⟩: ∃d,au s.data.toList (k+1)=d:=⟨_,rfl⟩;rw[hc]at xp oe h35;rw[hd]at qR;have HA:Hid (∀w,Calls prog 96 #[.string s,.int .i64 ((k:Int)+1)] w fun e w'=>e= .returned (.int .u8 (d.toNat:Int))∧w=w'):=ae (fun w=>vQ s _ (k+1) (by omega) d hd w (by unfold maxLen;omega));obtain⟨X,hX⟩: ∃X,X=aZ L br sq:=⟨_,rfl⟩;have abo:Hid (∀kk n b q,X= .tok kk n b q→1≤n∧n≤s.size-k∧R=((ts++[⟨kk,L.take n,k⟩])++(cK (s.data.toList.drop (k+n)) (k+n) b q).1,(cK (s.data.toList.drop (k+n)) (k+n) b q).2)):=ae (by
     intro kk n b q hr;rw[hX]at hr;have pc:=iS bW hr;have hsf:=oO bW (by rw[xp];exact oe) (by rw[xp];exact h35) hr k;refine⟨pc.1,by omega,?_⟩;rw[HR.out,hsf,sY,hL,yz];rfl)
    have ve:Hid (∀er,X= .bad er→R.2=some (k,er)∧er≠0):=ae (by
     intro er hr;rw[hX]at hr;refine⟨by rw[HR.out,sA bW (by rw[xp];exact oe) (by rw[xp];exact h35) hr k],?_⟩;have:=ux hr;omega)
    have HX:=ae hX;have HL:=ae hL;have PU:=ae xp;have afe:=ae qR;have HC:Hid (s[k]=c):=ae hc;have vf:ts.length≤1099511627776:=by omega
    have iI:s.size≤281474976710656:=by omega
    clear hL hLl bW xp qR hd oe h35 HR NT hX;rcases Re c d with hl|⟨hl,tj,hd,z46,z34,z39,z96⟩|⟨hl,tj,hd⟩|⟨hl,tj,hd,se,z34,z39,z96,oX⟩|⟨hl,tj,hd,se,z34,z39,z96,oX⟩|⟨hl,tj,hd,se,e34⟩|⟨hl,tj,hd,se,e34,e39⟩|⟨hl,tj,hd,se,e34,e39,e96⟩|⟨hl,tj,hd,se,e34,e39,e96⟩
    case' inl=>
     have Hy:=ae (show Calls prog 94 #[.pointer (some ⟨p,0,none⟩)] w2 (eV p w p s k ts X)from by
      rw[HX.out,HL.out];exact JF w2 p p s k br sq v ts w iI aA HS.out vf (by rw[HC.out];exact .inl hl))
    case' inr.inl=>
     have HV:=ae (jn tj);cases br<;>cases sq
    case' inr.inl.false.false=>
     have Hy:=ae (show Calls prog 94 #[.pointer (some ⟨p,0,none⟩)] w2 (eV p w p s k ts X)from by
      rw[HX.out,HL.out];exact JF w2 p p s k _ _ v ts w iI aA HS.out vf (by rw[HC.out];exact .inr ⟨by have:=HV.out;omega,rfl⟩))
    case' inr.inl.false.true|inr.inl.true.false|inr.inl.true.true=>
     have v58:=HV.out;have Hy:=ae (show Calls prog 99 #[.pointer (some ⟨p,0,none⟩)] w2 (eV p w p s k ts X)from by
      rw[HX.out,L9 PU.out hl (by simp) hd (fun x=>by omega) (by omega) (by omega) (by omega),HL.out];exact qc w2 p p s k _ _ v ts w iI aA HS.out vf)
    case' inr.inr.inl=>
     have Hy:=ae (show Calls prog 97 #[.pointer (some ⟨p,0,none⟩)] w2 (eV p w p s k ts X)from by
      rw[HX.out,Cz PU.out hl (by have:=kE tj;omega) (.inl hd),HL.out];exact Cx w2 p p s k br sq v ts w iI aA HS.out vf)
    case' inr.inr.inr.inl=>
     have Hy:=ae (show Calls prog 99 #[.pointer (some ⟨p,0,none⟩)] w2 (eV p w p s k ts X)from by
      rw[HX.out,L9 PU.out hl (fun x=>by have:=kE tj;omega) hd (fun x=>by rw[afe.out,oX]at x;cases x.2) (by have:=jn se;omega) (by have:=jn se;omega) (by have:=jn se;omega),HL.out];exact qc w2 p p s k br sq v ts w iI aA HS.out vf)
    case' inr.inr.inr.inr.inl=>
     have Hy:=ae (show Calls prog 97 #[.pointer (some ⟨p,0,none⟩)] w2 (eV p w p s k ts X)from by
      rw[HX.out,Cz PU.out hl (by have:=kE tj;omega) (.inr ⟨by have:=jn se;omega,by rw[afe.out];exact oX⟩),HL.out];exact Cx w2 p p s k br sq v ts w iI aA HS.out vf)
    case' inr.inr.inr.inr.inr.inl|inr.inr.inr.inr.inr.inr.inl|inr.inr.inr.inr.inr.inr.inr.inl=>
     have Hy:=ae (show Calls prog 98 #[.pointer (some ⟨p,0,none⟩)] w2 (eV p w p s k ts X)from by
      rw[HX.out,Kx PU.out (by first|(have:=jn e34;omega)|(have:=jn e39;omega)|(have:=jn e96;omega)),HL.out];exact Ko w2 p p s k br sq v ts w hs aA HS.out vf)
    case' inr.inr.inr.inr.inr.inr.inr.inr=>
     have Hy:=ae (show Calls prog 99 #[.pointer (some ⟨p,0,none⟩)] w2 (eV p w p s k ts X)from by
      rw[HX.out,L9 PU.out hl (fun x=>by have:=kE tj;omega) hd (fun x=>by have:=kE se;omega) (by have:=kE e34;omega) (by have:=kE e39;omega) (by have:=kE e96;omega),HL.out];exact qc w2 p p s k br sq v ts w iI aA HS.out vf)
    all_goals (try clear v58)
    all_goals
     clear HX;go_wp2_with (first|(go_at_call 93;refine(dS c _ hl _).mono ?_;rintro e w' ⟨rfl,rfl⟩)|(go_at_call 95;refine(fD c _ hd _).mono ?_;rintro e w' ⟨rfl,rfl⟩)|(go_at_call 95;refine(fD d _ oX _).mono ?_;rintro e w' ⟨rfl,rfl⟩)|(go_at_call 96;refine(HA.out _).mono ?_;rintro e w' ⟨rfl,rfl⟩));refine Hy.out.mono ?_;rintro e w5 ⟨rfl,iy⟩;clear Hy c1 c2 c3 c4;cases X with
     |tok kk n b q=>
      obtain⟨v',S8⟩:=iy;obtain⟨AE,xd,hR5⟩:=abo.out kk n b q rfl;rw[←HL.out]at S8;have HS5:=ae S8;have HR5:=ae hR5;have HM5:=ae (pM S8.z);have c5:w5.cell? ⟨p,5,none⟩=some (.int .i64 0):=by rw[S8.z.cell];rfl
      clear S8 hR5 abo ve HS;go_wp2_with fail;exact⟨⟨k+n,b,q,v',_,by omega,by rw[iF];simp;omega,HS5,HR5⟩,by rw[HM5.out,HMU.out];omega⟩
     |bad er=>
      obtain⟨b,q,v',RW,lj⟩:=iy;obtain⟨hR5,akm⟩:=ve.out er rfl;have HR5:=ae hR5;have mW:Hid (Below w.heap.size w w5):=ae (by rw[←HP.out];exact lj);have c1:w5.cell? ⟨p,1,none⟩=some (.int .i64 (k:Int)):=by rw[RW.cell];rfl
      have c5:w5.cell? ⟨p,5,none⟩=some (.int .i64 (er:Int)):=by rw[RW.cell];rfl
      have y5:((er:Int) != 0)=true:=by rw[jo];omega
      clear RW lj hR5 abo ve HS akm;go_wp2_with fail;go_region_held3 (fun w'=>w'.cell? ⟨p,1,none⟩=some (.int .i64 (k:Int))∧w'.cell? ⟨p,5,none⟩=some (.int .i64 (er:Int))) (first|go_keep) (first|fail);go_wp2_with fail;refine cB (ic rfl _ _ _) rfl ?_;exact fr.bad HR5.out mW.out.drew
   ·have uT:k=s.size:=by omega
    have h2:R=(ts,none):=by rw[HR.out,uT,Oc (by rw[af];omega),sy,nR]
    have H2:=ae h2;clear h2 HR;go_wp2_with fail;refine cB (ic rfl _ _ _) rfl ?_;have h3:R.1=ts:=by rw[H2.out]
    exact fr.aeO (by rw[H2.out]) (by rw[h3,←HP.out];exact HS.out.own) (by rw[←HP.out];exact HS.out.below)
theorem oU (w:World) (s:ByteArray) (hs:s.size≤1048576):
  Calls prog 52 #[.string s] w (kt w (fy s)):=by
 obtain⟨R,hR⟩: ∃R,R=eU s.data.toList:=⟨_,rfl⟩;have hk:fy s=LH s.data.toList R:=by rw[hR];rfl
 have HK:=ae hk;have HR:=ae hR;have HE:=ae (show ∀a e,R.2=some (a,e)→e≠0 from fun a e h=>(yY (by rw[←hR];exact h)).1);have HL:Hid (R.1.length≤1048576):=ae (by
  have h1:=(yZ s.data.toList).1;rw[←hR,af]at h1;omega)
 clear hk hR;go_enter func52,ntmps52;go_wp2_with fail;refine(VH _ s (by omega)).mono ?_;intro e w2 hp;obtain⟨ao,ca,rfl,hoa,Pw,aQ⟩:=hp.open;rw[←HR.out]at hoa Pw ⊢
 have HB:=ae aQ;have FG:=ae Pw;clear hoa Pw hp aQ;obtain⟨ts,er⟩:=R;cases er with
 |some f=>
  obtain⟨a,c⟩:=f;have he:=HE a c rfl;have hc:((c:Int)==0)=false:=by rw[bN];omega
  have ko:((c:Int) != 0)=true:=by rw[bne,hc];rfl
  simp only[rr,yI,gI];have H0:Hid (fy s=0):=ae (by rw[HK.out];cases ts with|nil=>rfl|cons t ts=>cases ts<;>rfl);clear HK HE FG HR HL;go_wp2_with fail;go_ret;exact⟨by rw[H0.out];rfl,HB⟩
 |none=>
  simp only[rr,yI,gI]at FG ⊢
  obtain⟨ao',c',hv,hc⟩:=FG.out;cases ts with
  |nil=>
   have H0:Hid (fy s=0):=ae (by rw[HK.out];rfl);clear HK HE FG HR HL hv hc;go_wp2_with fail;go_ret;exact⟨by rw[H0.out];rfl,HB⟩
  |cons t ts=>
   cases ts with
   |cons t2 ts=>
    have H0:Hid (fy s=0):=ae (by rw[HK.out];rfl);have hl:((((t::t2::ts).length:Nat):Int)==1)=false:=by rw[bN];simp only[ek];omega
    have uR:((((t::t2::ts).length:Nat):Int) != 1)=true:=by rw[bne,hl];rfl
    clear HK HE FG HR HL hv hc;generalize (t::t2::ts).length=n at hl uR ⊢
    go_wp2_with fail;go_ret;exact⟨by rw[H0.out];rfl,HB⟩
   |nil=>
    obtain⟨g,o,Xn,hg,h0,h1,h2⟩:=hc 0 (by simp);injection hv with Sr Pr hv3
    subst Sr Xn;simp only[mq,mY,Is,Du,yB,iz,ek,o8,mr]at h0 h1 h2 ⊢
    clear Pr hv3 hc FG HR HE HL h2;by_cases he:t.text=s.data.toList
    ·have H0:Hid (fy s=t.kind):=ae (by rw[HK.out];simp[LH,he]);rw[he,mk_data]at h1;clear HK he;go_wp2_with fail;go_ret;exact⟨by rw[H0.out];rfl,HB⟩
    ·have H0:Hid (fy s=0):=ae (by rw[HK.out];simp[LH,he]);have bW: ¬(⟨t.text.toArray⟩:ByteArray)=s:=fun h=>he (by rw[←h])
     obtain⟨x,hx⟩: ∃x:ByteArray,x=⟨t.text.toArray⟩:=⟨_,rfl⟩;rw[←hx]at h1 bW;have XR:(x.toList==s.toList)=false:=TR bW;clear HK he hx bW;go_wp2_with fail;go_ret;exact⟨by rw[H0.out];rfl,HB⟩
theorem lU (w:World) (s:ByteArray) (hs:s.size≤1048576):
  Calls prog 56 #[.string s] w (aF w (fz s)):=by
 have HC:=ae (oU w s hs);have HD:Hid (fz s=(((fy s:Nat):Int)==4)):=ae (by unfold fz;rw[eo];simp;omega);go_enter func56,ntmps56;go_wp2_with fail;refine HC.mono ?_;rintro e w2 ⟨rfl,hb⟩;have HB:=ae hb;clear hb;go_wp2_with fail;go_ret;exact⟨by rw[HD.out];rfl,HB⟩
theorem Nu (w:World) (s:ByteArray) (hs:s.size≤1048576):
  Calls prog 50 #[.string s] w (aF w (ie s)):=by
 have HC:=ae (oU w s hs);have HD:Hid (ie s=(((fy s:Nat):Int)==3||((fy s:Nat):Int)==4)):=ae (by unfold ie;rw[eo];simp;omega);generalize fy s=k at HC HD;go_enter func50,ntmps50;go_wp2_with fail;refine HC.mono ?_;rintro e w2 ⟨rfl,hb⟩;have HB:=ae hb;clear hb HC;by_cases h3:k=3
 ·subst h3;go_wp2_with fail;go_ret;exact⟨by rw[HD.out];rfl,HB⟩
 ·have h3':((k:Int)==3)=false:=by rw[bN];omega
  clear h3;go_wp2_with fail;go_ret;exact⟨by rw[HD.out,h3'];rfl,HB⟩
theorem zw (w:World) (s:ByteArray) (hs:s.size≤1048576):Calls prog 53 #[.string s] w (aF w (word s.data.toList)):=by
 have HC:=ae (Up s w (by unfold maxLen;omega));generalize word s.data.toList=b at HC ⊢
 go_enter func53,ntmps53;go_wp2_with fail;refine HC.mono ?_;rintro e w2 ⟨rfl,hb⟩;have HB:=ae hb;clear hb;go_wp2_with fail;go_ret;exact⟨rfl,HB⟩
theorem all_succ {α:Type} {l:List α} (h:j<l.length) (p:α→Bool):(l.take (j+1)).all p=((l.take j).all p&&p l[j]):=by rw[jO h,ID];simp
theorem T5 {α:Type} {l:List α} (h:j<l.length) {p:α→Bool} (hp:p l[j]=false):l.all p=false:=by
 rw[Ef];exact⟨_,jj h,by rw[hp];simp⟩
theorem uF (h:cO b w v ss) (hn:ss.length≤1048576) (hs: ∀s∈ss,s.size≤1048576):Calls prog 59 #[v] w (aF w (bH ss)):=by
 obtain⟨ao,c,rfl,hc⟩:=h;have HC:=ae hc;have HS:=ae hs;clear hc hs;go_enter func59,ntmps59;go_wp2_with fail;go_loopw [3] (fun t3 W=> ∃j:Nat,t3= .int .i64 (j:Int)∧Hid (j≤ss.length∧(ss.take j).all (fun s=>dM s.data.toList)=true∧Below w.heap.size w W)) (fun t3 _=>ss.length-(intOf t3).toNat)
 case atStart=>exact⟨0,rfl,ae ⟨aV _,rfl,aU _ _⟩⟩
 case round=>
  obtain⟨j,rfl,hI⟩:=hrel;by_cases aA:j<ss.length
  ·have p1:((j:Int)<(ss.length:Int))=True:=aD (by omega);obtain⟨g,o,rfl,_,hg,hx⟩:=HC.out j aA;have c0:wr.cell? ⟨g,o+j,none⟩=some (.string ss[j]):=(hI.out.2.2.cell (p:=⟨g,_,none⟩) hg).trans hx;have hz:=HS.out ss[j] (jj aA);obtain⟨bb,oc⟩: ∃bb,bb=dM ss[j].data.toList:=⟨_,rfl⟩;have Hy:Hid (∀W,Calls prog 75 #[.string ss[j]] W fun e w'=>e= .returned (.bool bb)∧W=w'):=ae fun W=>by rw[oc];exact yN ss[j] W (by unfold maxLen;omega)
   have xa:=ae (all_succ aA (fun s=>dM s.data.toList));have Am:Hid (bb=false→bH ss=false):=ae fun h=>T5 aA (by rw[←oc,h])
   have kG:=ae oc;clear hx hz oc;cases bb
   ·go_wp2_with (go_at_call 75;(with_reducible refine(Hy.out _).mono ?_);rintro e w' ⟨rfl,rfl⟩);go_ret;exact⟨by rw[Am.out (by first|rfl|trivial)];rfl,hI.out.2.2⟩
   ·go_wp2_with (go_at_call 75;(with_reducible refine(Hy.out _).mono ?_);rintro e w' ⟨rfl,rfl⟩);go_roundw
    case rel=>exact⟨j+1,by go_num,ae ⟨aA,by rw[xa.out,hI.out.2.1,←kG.out];rfl,hI.out.2.2⟩⟩
    case measure=>simp[intOf];omega
  ·have p1:((j:Int)<(ss.length:Int))=False:=bT (by omega);have HF:Hid (bH ss=true):=ae (by have:=hI.out.2.1;rwa [Dq (by omega)]at this);go_wp2_with fail;go_ret;exact⟨by rw[HF.out];rfl,hI.out.2.2⟩
theorem G7 (h:fV b w v ms) (hn:ms.length≤1048576) (hs: ∀m∈ms,m.name.size≤1048576∧m.value.size≤1048576):Calls prog 54 #[v] w (aF w (ms.all cL)):=by
 obtain⟨ao,c,rfl,hc⟩:=h;have HC:=ae hc;have HS:=ae hs;clear hc hs;go_enter func54,ntmps54;go_wp2_with fail;go_loopw [3] (fun t3 W=> ∃j:Nat,t3= .int .i64 (j:Int)∧Hid (j≤ms.length∧(ms.take j).all cL=true∧Below w.heap.size w W)) (fun t3 _=>ms.length-(intOf t3).toNat)
 case atStart=>exact⟨0,rfl,ae ⟨aV _,rfl,aU _ _⟩⟩
 case round=>
  obtain⟨j,rfl,hI⟩:=hrel;by_cases aA:j<ms.length
  ·have p1:((j:Int)<(ms.length:Int))=True:=aD (by omega);obtain⟨g,o,rfl,_,hg,ZP,lh,mj⟩:=HC j aA;have c0:wr.cell? ⟨g,o+j*3,none⟩=some (.string ms[j].name):=(hI.2.2.cell (p:=⟨g,_,none⟩) hg).trans ZP;have c1:wr.cell? ⟨g,o+j*3+1,none⟩=some (.int .i64 ms[j].op):=(hI.2.2.cell (p:=⟨g,_,none⟩) hg).trans lh;have c2:wr.cell? ⟨g,o+j*3+2,none⟩=some (.string ms[j].value):=(hI.2.2.cell (p:=⟨g,_,none⟩) hg).trans mj;have hz:=HS ms[j] (jj aA);have xa:=ae (all_succ aA cL);have Am:=ae fun(h:cL ms[j]=false)=>T5 aA h
   obtain⟨m,hm⟩: ∃m,m=ms[j]:=⟨_,rfl⟩;rw[←hm]at c0 c1 c2 hz xa Am;obtain⟨b1,aY⟩: ∃bb,bb=dM m.name.data.toList:=⟨_,rfl⟩;obtain⟨b2,aQ⟩: ∃bb,bb=valid m.value.data.toList:=⟨_,rfl⟩;have Hy:Hid (∀W,Calls prog 75 #[.string m.name] W fun e w'=>e= .returned (.bool b1)∧W=w'):=ae fun W=>by rw[aY];exact yN m.name W (by unfold maxLen;omega)
   have HCV:Hid (∀W,Calls prog 51 #[.string m.value] W fun e w'=>e= .returned (.bool b2)∧Below W.heap.size W w'):=ae fun W=>by rw[aQ];exact j7 m.value W (by omega)
   have HM:Hid (cL m=(b1&&decide (1≤m.op)&&decide (m.op≤4)&&b2)):=ae (by rw[aY,aQ];rfl);obtain⟨op,ye⟩: ∃op,op=m.op:=⟨_,rfl⟩;rw[←ye]at c1 HM;clear ZP lh mj hz hm aY aQ ye;rcases(show ((op<1)=True∧decide (1≤op)=false∧decide (op≤4)=true)∨((op<1)=False∧(4<op)=True∧decide (1≤op)=true∧decide (op≤4)=false)∨((op<1)=False∧(4<op)=False∧decide (1≤op)=true∧decide (op≤4)=true)by
    rcases Int.lt_or_le op 1 with h|h
    ·exact .inl ⟨aD h,gj (by omega),dO (by omega)⟩
    ·rcases Int.lt_or_le 4 op with h4|h4
     ·exact .inr (.inl ⟨bT (by omega),aD h4,dO h,gj (by omega)⟩)
     ·exact .inr (.inr ⟨bT (by omega),bT (by omega),dO h,dO h4⟩))with⟨q1,d1,d2⟩|⟨q1,q2,d1,d2⟩|⟨q1,q2,d1,d2⟩
   all_goals
    rw[d1,d2]at HM;clear d1 d2;cases b1<;>cases b2
   all_goals
    go_wp2_with (first|(go_at_call 75;(with_reducible refine(Hy.out _).mono ?_);rintro e w' ⟨rfl,rfl⟩)|(go_at_call 51;(with_reducible refine(HCV.out _).mono ?_);rintro e w2 ⟨rfl,hb⟩;have bF:=ae (hI.2.2.trans (hb.mono hI.2.2.size));clear hb))
    first
    |go_ret
     exact⟨by rw[Am.out (by rw[HM.out];rfl)];rfl,by first|exact bF|exact hI.2.2⟩
    |go_roundw
     case rel=>exact⟨j+1,by go_num,ae ⟨aA,by rw[xa.out,hI.out.2.1,HM.out];rfl,bF⟩⟩
     case measure=>simp[intOf];omega
  ·have p1:((j:Int)<(ms.length:Int))=False:=bT (by omega);have HF:Hid (ms.all cL=true):=ae (by have:=hI.2.1;rwa [Dq (by omega)]at this);go_wp2_with fail;go_ret;exact⟨by rw[HF.out];rfl,hI.2.2⟩
theorem Fg (h:cO b w v ss) (hn:ss.length≤1048576):Calls prog 57 #[.string s,v] w fun e w'=>e= .returned (.bool (ss.any fun x=>x.data.toList==s.data.toList))∧w=w':=by
 obtain⟨ao,c,rfl,hc⟩:=h;have HC:=ae hc;clear hc;go_enter func57,ntmps57;go_wp2_with fail;go_loopw [5] (fun t5 W=> ∃j:Nat,t5= .int .i64 (j:Int)∧Hid (j≤ss.length∧(ss.take j).any (fun x=>x.data.toList==s.data.toList)=false)∧W=w) (fun t5 _=>ss.length-(intOf t5).toNat)
 case atStart=>exact⟨0,rfl,ae ⟨aV _,rfl⟩,rfl⟩
 case round=>
  obtain⟨j,rfl,hI,rfl⟩:=hrel;by_cases aA:j<ss.length
  ·have p1:((j:Int)<(ss.length:Int))=True:=aD (by omega);obtain⟨g,o,rfl,_,hg,hx⟩:=HC.out j aA;have xa:Hid ((ss.take (j+1)).any (fun x=>x.data.toList==s.data.toList)=((ss.take j).any (fun x=>x.data.toList==s.data.toList)||(ss[j].data.toList==s.data.toList))):=ae (by rw[jO aA,List.any_append];simp);have aff:Hid ((ss[j].data.toList==s.data.toList)=true→ss.any (fun x=>x.data.toList==s.data.toList)=true):=ae fun h=>List.any_eq_true.2 ⟨_,jj aA,h⟩
   have he:(ss[j].toList==s.toList)=(ss[j].data.toList==s.data.toList):=by rw[nM,nM]
   have HE:=ae he;generalize ss[j]=x at hx xa aff he HE;rcases Ir (x.data.toList==s.data.toList)with hb|hb
   all_goals
    rw[hb]at he;have HB:=ae hb;clear hb
   ·have ZF:x=s:=by have:=cx.1 HB.out;rw[←mk_data x,←mk_data s,this]
    subst ZF;go_wp2_with fail;go_ret;exact⟨by rw[aff.out HB.out];rfl,rfl⟩
   ·go_wp2_with fail;go_roundw
    case rel=>exact⟨j+1,by go_num,ae ⟨aA,by rw[xa.out,hI.out.2,HB.out];rfl⟩,by first|rfl|trivial⟩
    case measure=>simp[intOf];omega
  ·have p1:((j:Int)<(ss.length:Int))=False:=bT (by omega);have HF:Hid (ss.any (fun x=>x.data.toList==s.data.toList)=false):=ae (by have:=hI.out.2;rwa [Dq (by omega)]at this);go_wp2_with fail;go_ret;exact⟨by rw[HF.out];rfl,rfl⟩
