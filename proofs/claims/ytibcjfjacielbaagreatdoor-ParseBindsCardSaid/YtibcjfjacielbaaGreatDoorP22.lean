import Derived.Test.YtibcjfjacielbaaGreatDoorP16
import Derived.Test.YtibcjfjacielbaaGreatDoorP17
import Derived.Test.YtibcjfjacielbaaGreatDoorP18
import Derived.Test.YtibcjfjacielbaaGreatDoorP21
/- Part of the proof of YtibcjfjacielbaaGreatDoorCardP: NumE NumF. -/
set_option maxRecDepth 100000
set_option maxHeartbeats 4000000
set_option linter.unusedVariables false
set_option linter.unusedSimpArgs false
namespace Go.Proofs.YtibcjfjacielbaaGreatDoor
open Go.RowKit
def numRes (l:List UInt8):Nat:=
 if numErr l≠0 then 0 else if isWord3 l 105 110 102=true then 9218868437227405312 else if isWord3 l 110 97 110=true then 9221120237041090561 else numVal l
theorem atof_dec (B:Nat) (s:ByteArray) (hs:s.size≤512) (h0:numPrefix s.data.toList=s.data.toList.length) (hne:s.data.toList≠[]) (hh:hexHead s.data.toList=false):AtofAt B s (decL s.data.toList):=by
 obtain⟨hm,⟨i0,hi0,hdi⟩,hex⟩:=shape_dec h0 hne hh;intro w hT;have hsz:0<s.size:=by rw[←len_data];exact List.length_pos_iff.2 hne
 have hml:mEnd s.data.toList≤s.size:=by have:=hm.1;rwa [len_data]at this
 have hfirst:digit s[0]=true∨s[0].toNat=46:=by
  rw[←atB_lt hsz];exact(hm.2 0 (by omega)).imp id And.left
 have hx1: ∀h:2<s.size,((s[1].toNat|||32:Nat):Int)≠120:=by
  intro h;have:=(dec_noX h0 hne hh (by rw[len_data];omega)).2;rw[atB_lt (by omega)]at this;omega
 obtain⟨M,N,D,P,dt,dg,tr,hr⟩: ∃M N D P dt dg tr,rfAt s.data.toList (mEnd s.data.toList)=⟨M,N,D,P,dt,dg,tr⟩:=⟨_,_,_,_,_,_,_,rfl⟩;have hok:=rfAt_ok hm _ (Nat.le_refl _);rw[hr]at hok;have hM:M<10000000000000000000:=by
  have h1:=hok.mant;have h2:=hok.ndm.1;simp only at h1 h2;have h3:(10:Nat)^N≤10^19:=Nat.pow_le_pow_right (by omega) h2;omega
 have heb: -100009≤eVal s.data.toList∧eVal s.data.toList≤100009:=by
  unfold eVal;split
  ·rename_i hlt;rcases hex with he|⟨_,he⟩
   ·omega
   ·have:=eAt_le (l:=s.data.toList) (j:=eDig s.data.toList) s.data.toList.length (by have:=he.some;omega) (Nat.le_refl _) fun i a b=>he.digs i a b
    split<;>omega
  ·omega
 have hfull:=dsV_ok hm (by omega) heb;have hset: ∀(w:World) (B g:Nat),DecAt w g (fun _=>0) 0 0 false false→B≤g→Calls Tryz.prog 306 #[.pointer (some ⟨g,0,none⟩),.string s] w fun e w'=>e= .returned (.bool true)∧DecSt w' g (dsV s.data.toList (mEnd s.data.toList) (eVal s.data.toList)) false∧Below B w w':=by
  intro w B g hda hB;refine dec_set s w B g (mEnd s.data.toList) i0 (eVal s.data.toList) (by omega) hm hi0 hdi hda hB ?_;rcases hex with he|⟨hlt,he⟩
  ·exact .inl ⟨by rw[he,len_data],by rw[eVal,if_neg (by omega)]⟩
  ·refine .inr ⟨_,_,he,?_⟩;rw[eVal,if_pos hlt,len_data]
 have hrf: ∀w,Calls Tryz.prog 300 #[.string s] w fun e w'=>e= .returned (.tuple #[.int .u64 (M:Int),.int .i64 (rfExp (rfAt s.data.toList (mEnd s.data.toList)) (eVal s.data.toList)),.bool false,.bool tr,.bool false,.int .i64 (s.size:Int),.bool true])∧w=w':=by
  intro w;rw[hr];rcases hex with he|⟨hlt,he⟩
  ·have hE:eVal s.data.toList=0:=by rw[eVal,if_neg (by omega)]
   rw[hE];have hmz:mEnd s.data.toList=s.size:=by rw[he,len_data]
   rw[hmz]at hm hi0 hr;exact fp_readFloat s w (by omega) s.size 0 (.inl ⟨rfl,rfl⟩) hm hsz i0 hi0 hdi hx1 M N D P dt dg tr hr
  ·have hE:eVal s.data.toList=if eSgn s.data.toList=true then-((eAt s.data.toList (eDig s.data.toList) s.size:Nat):Int)else((eAt s.data.toList (eDig s.data.toList) s.size:Nat):Int):=by rw[eVal,if_pos hlt,len_data]
   rw[hE];exact fp_readFloat s w (by omega) (mEnd s.data.toList) _ (.inr ⟨eDig s.data.toList,eSgn s.data.toList,he,rfl⟩) hm (by omega) i0 hi0 hdi hx1 M N D P dt dg tr hr
 have:=fp_atof_dec s w B hsz hfirst M (rfExp (rfAt s.data.toList (mEnd s.data.toList)) (eVal s.data.toList)) tr hM (dsV s.data.toList (mEnd s.data.toList) (eVal s.data.toList)) hfull.1 hrf hset hT;have hv:decL s.data.toList=decW M (rfExp (rfAt s.data.toList (mEnd s.data.toList)) (eVal s.data.toList)) tr (dsV s.data.toList (mEnd s.data.toList) (eVal s.data.toList)):=by
  rw[decL,hr]
 rw[hv];exact this
theorem atB_appN {l x:List UInt8} {i:Nat} (h:i<l.length):atB (l++x) i=atB l i:=by
 rw[atB,atB,List.getD_eq_getElem?_getD,List.getD_eq_getElem?_getD,List.getElem?_append_left h]
theorem atB_behind {l x:List UInt8} (i:Nat):atB (l++x) (l.length+i)=atB x i:=by
 rw[atB,atB,List.getD_eq_getElem?_getD,List.getD_eq_getElem?_getD,List.getElem?_append_right (by omega),Nat.add_sub_cancel_left]
theorem rxAt_app {l x:List UInt8} (h:2≤l.length):rxAt (l++x) l.length=rxAt l l.length:=by
 unfold rxAt;rw[List.drop_append_of_le_length h,List.take_append_of_le_length (by simp)]
theorem atof_hex (B:Nat) (s t:ByteArray) (hs:s.size≤512) (ht:t.data.toList=s.data.toList++[112,48]) (h0:numPrefix s.data.toList=s.data.toList.length) (hh:hexHead s.data.toList=true):AtofAt B t (hexW s.data.toList):=by
 obtain⟨h3,hz,hx,hok⟩:=shape_hex h0 hh;intro w hT;rw[len_data]at h3;have htz:t.size=s.size+2:=by rw[←len_data,ht,List.length_append,len_data];rfl
 have hat: ∀i,i<s.size→ ∀h:i<t.size,t[i]=atB s.data.toList i:=fun i hi h=>by
  rw[←atB_lt h,ht,atB_appN (by rw[len_data];exact hi)]
 have hbe: ∀i,(h:s.size+i<t.size)→t[s.size+i]=atB [112,48] i:=fun i h=>by
  rw[←atB_lt h,ht,←len_data,atB_behind]
 obtain⟨M,N,D,tr,hr⟩: ∃M N D tr,rxAt s.data.toList s.data.toList.length=⟨M,N,D,tr⟩:=⟨_,_,_,_,rfl⟩;have hrk:=rxAt_ok hok _ (by rw[len_data];omega) (Nat.le_refl _);rw[hr]at hrk;have k1:=hrk.ndm;have k2:=hrk.mant;simp only at k1 k2;rw[len_data]at k1;have hM:M<18446744073709551616:=by
  have:(16:Nat)^N≤16^16:=Nat.pow_le_pow_right (by omega) k1.1;omega
 have hX: -500≤hexExp M N D∧hexExp M N D≤10000:=by
  unfold hexExp;split<;>omega
 have hhex:HexOk t.data.toList s.size:=by
  refine⟨by rw[len_data];omega,fun i a b=>?_⟩;rw[ht,atB_appN (by rw[len_data];exact b)];exact hok.2 i a (by rw[len_data];exact b)
 have c0:t[0].toNat=48:=by rw[hat 0 (by omega) (by omega)];exact hz
 have c1:(t[1].toNat|||32)=120:=by rw[hat 1 (by omega) (by omega)];exact hex_isX hx
 have hrt:rxAt t.data.toList s.size=⟨M,N,D,tr⟩:=by
  rw[ht,←hr,←len_data,rxAt_app (by rw[len_data];omega)]
 have hrf: ∀w,Calls Tryz.prog 300 #[.string t] w fun e w'=>e= .returned (.tuple #[.int .u64 (M:Int),.int .i64 (hexExp M N D),.bool false,.bool tr,.bool true,.int .i64 (t.size:Int),.bool true])∧w=w':=
  fun w=>fp_readFloat_hex t w s.size (by omega) (by omega) (by omega) c0 c1 hhex (by rw[show t[s.size]=atB [112,48] 0 from hbe 0 (by omega)];rfl) (by rw[hbe 1 (by omega)];rfl) htz M N D tr hrt
 have:=fp_atof_hex t w B s.size (by omega) (.inl (by
  have:digit t[0]=true:=by rw[digit];simp[c0]
  exact this)) M (hexExp M N D) tr hM hX hrf hT
 have hv:hexW s.data.toList=(hxV M (hexExp M N D) tr).1:=by rw[hexW,hr,hexExp]
 rw[hv];exact this
theorem word3 (l:List UInt8) (a b c:UInt8):wordB l [a,b,c]=isWord3 l a.toNat b.toNat c.toNat:=by
 unfold wordB isWord3;rcases l with _|⟨x,_|⟨y,_|⟨z,_|⟨u,r⟩⟩⟩⟩
 ·rfl
 ·rfl
 ·rfl
 ·simp[atB,Bool.and_assoc]
 ·simp
def NumPost (w:World) (l:List UInt8) (e:Ending) (w':World):Prop:=e= .returned (.tuple #[.float .f64 (numRes l),.int .i64 (numErr l:Nat)])∧Below w.heap.size w w'
theorem NumPost.mk' {w w':World} {l:List UInt8} {x n:Nat} (hx:numRes l=x) (hn:numErr l=n) (hb:Below w.heap.size w w'):NumPost w l (.returned (.tuple #[.float .f64 x,.int .i64 (n:Int)])) w':=by
 subst hx;subst hn;exact⟨rfl,hb⟩
theorem numErr_long {l:List UInt8} (h:512<l.length):numErr l=1:=by rw[numErr,if_pos h]
theorem numErr_inf {l:List UInt8} (h: ¬512<l.length) (h1:isWord3 l 105 110 102=true):numErr l=0:=by rw[numErr,if_neg h,if_pos (by rw[h1];rfl)]
theorem numErr_nan {l:List UInt8} (h: ¬512<l.length) (h1:isWord3 l 110 97 110=true):numErr l=0:=by rw[numErr,if_neg h,if_pos (by rw[h1];simp)]
theorem numErr_bad {l:List UInt8} (h: ¬512<l.length) (h1:isWord3 l 105 110 102=false) (h2:isWord3 l 110 97 110=false) (h3:l=[]∨numPrefix l≠l.length):numErr l=20:=by
 rw[numErr,if_neg h,if_neg (by rw[h1,h2];simp),if_pos h3]
theorem numErr_big {l:List UInt8} (h: ¬512<l.length) (h1:isWord3 l 105 110 102=false) (h2:isWord3 l 110 97 110=false) (h3: ¬(l=[]∨numPrefix l≠l.length)):numErr l=if huge l=true then 21 else 0:=by
 rw[numErr,if_neg h,if_neg (by rw[h1,h2];simp),if_neg h3]
theorem numRes_err {l:List UInt8} {n:Nat} (h:numErr l=n) (hn:n≠0):numRes l=0:=by rw[numRes,if_pos (by rw[h];exact hn)]
theorem numRes_ok {l:List UInt8} (h:numErr l=0) (h1:isWord3 l 105 110 102=false) (h2:isWord3 l 110 97 110=false):numRes l=numVal l:=by
 rw[numRes,if_neg (by rw[h];simp),if_neg (by rw[h1];simp),if_neg (by rw[h2];simp)]
theorem num_Read (B:Nat) (s:ByteArray) (w:World) (hT:NumTab B w):Calls Tryz.prog 204 #[.string s] w (NumPost w s.data.toList):=by
 have HT:=Lib.hid hT;clear hT;by_cases hl:512<s.size
 ·have q1:((512:Int)<(s.size:Int))=True:=eq_true (by omega);have HN:=Lib.hid (numErr_long (l:=s.data.toList) (by rw[len_data];exact hl));go_enter Tryz.func204,Tryz.ntmps204;go_wp2_with fail;go_ret2;exact NumPost.mk' (numRes_err HN.out (by omega)) HN.out (Below.refl _ _)
 have q1:((512:Int)<(s.size:Int))=False:=eq_false (by omega);have HL:Hid (¬512<s.data.toList.length):=Lib.hid (by rw[len_data];omega);go_enter Tryz.func204,Tryz.ntmps204;go_wp2_with fail;refine(num_word s ⟨#[105,110,102]⟩ _ (by omega) (by decide)).mono ?_;rintro e w1 ⟨rfl,hb1⟩;have HB1:=Lib.hid hb1;clear hb1;rcases Bool.eq_false_or_eq_true (isWord3 s.data.toList 105 110 102)with h1|h1
 all_goals rw[show wordB s.data.toList (⟨#[105,110,102]⟩:ByteArray).data.toList=_ from(word3 s.data.toList 105 110 102).trans h1]
 next=>
  have HI:=Lib.hid h1;have HN:=Lib.hid (numErr_inf HL.out h1);clear h1;go_wp2_with fail;refine(math_Inf _).mono ?_;rintro e w2 ⟨rfl,rfl⟩;go_wp2_with fail;go_ret2;exact NumPost.mk' (by rw[numRes,if_neg (by rw[HN.out];simp),if_pos HI.out]) HN.out HB1.out
 have HI:=Lib.hid h1;clear h1;go_wp2_with fail;refine(num_word s ⟨#[110,97,110]⟩ _ (by omega) (by decide)).mono ?_;rintro e w2 ⟨rfl,hb2⟩;have HB2:=Lib.hid (HB1.out.trans (hb2.mono HB1.out.size));clear hb2;rcases Bool.eq_false_or_eq_true (isWord3 s.data.toList 110 97 110)with h2|h2
 all_goals rw[show wordB s.data.toList (⟨#[110,97,110]⟩:ByteArray).data.toList=_ from(word3 s.data.toList 110 97 110).trans h2]
 next=>
  have HJ:=Lib.hid h2;have HN:=Lib.hid (numErr_nan HL.out h2);clear h2;go_wp2_with fail;refine(math_NaN _).mono ?_;rintro e w3 ⟨rfl,rfl⟩;go_wp2_with fail;go_ret2;exact NumPost.mk' (by rw[numRes,if_neg (by rw[HN.out];simp),if_neg (by rw[HI.out];simp),if_pos HJ.out]) HN.out HB2.out
 have HJ:=Lib.hid h2;clear h2;by_cases he:s.data.toList=[]
 ·have z1:(s.toList=[])=True:=eq_true (by rw[ByteArray.toList_eq];exact he);have HN:=Lib.hid (numErr_bad HL.out HI.out HJ.out (.inl he));clear he;go_wp2_with fail;go_ret2;exact NumPost.mk' (numRes_err HN.out (by omega)) HN.out HB2.out
 have z1:(s.toList=[])=False:=eq_false (by rw[ByteArray.toList_eq];exact he);have z2:s.toList.isEmpty=false:=by rw[ByteArray.toList_eq];simpa using he
 have HE:=Lib.hid he;clear he;go_wp2_with fail;refine(num_Prefix s _ (by omega)).mono ?_;rintro e w3 ⟨rfl,rfl⟩;by_cases hp:numPrefix s.data.toList≠s.data.toList.length
 ·have q3:((numPrefix s.data.toList:Int) != (s.size:Int))=true:=by rw[len_data]at hp;rw[bne_iff_ne];omega
  have HN:=Lib.hid (numErr_bad HL.out HI.out HJ.out (.inr hp));clear hp;go_wp2_with fail;go_ret2;exact NumPost.mk' (numRes_err HN.out (by omega)) HN.out HB2.out
 rw[ne_eq,Decidable.not_not]at hp;have q3:((numPrefix s.data.toList:Int) != (s.size:Int))=false:=by rw[hp,len_data];simp
 have HP:=Lib.hid hp;clear hp;go_wp2_with fail;refine(num_small s _ (by omega)).mono ?_;rintro e w3 ⟨⟨v,rfl,hv⟩,hb3⟩;have HNN:=Lib.hid (numErr_big HL.out HI.out HJ.out (by rw[not_or];exact⟨HE.out,fun h=>h HP.out⟩));have HB3:=Lib.hid (HB2.out.trans (hb3.mono HB2.out.size));have HV:=Lib.hid hv;clear hb3 hv;rcases Bool.eq_false_or_eq_true (smallB s.data.toList)with hsm|hsm
 all_goals rw[hsm]
 next=>
  have hN0:numErr s.data.toList=0:=by rw[HNN.out,huge,hsm];rfl
  have HN:=Lib.hid hN0;have HR:=Lib.hid ((numRes_ok hN0 HI.out HJ.out).trans (show numVal s.data.toList=smallV s.data.toList by rw[numVal,if_pos hsm]));have HSM:=Lib.hid hsm;clear hN0 hsm;go_wp2_with fail;go_ret2;exact NumPost.mk' (by rw[HR.out];exact(HV.out HSM.out).symm) HN.out HB3.out
 have HSM:=Lib.hid hsm;clear hsm HV;cases hh:hexHead s.data.toList
 case' false=>
  have hx:1<s.size→isX (atB s.data.toList 1)=false∧((atB s.data.toList 1).toNat|||32)≠120:=fun h=>dec_noX HP.out HE.out hh (by rw[len_data];exact h)
  have hxf:isX (atB s.data.toList 1)=false:=by
   rcases Nat.lt_or_ge 1 s.size with h|h
   ·exact(hx h).1
   ·have:atB s.data.toList 1=0:=by rw[atB,List.getD_eq_getElem?_getD,List.getElem?_eq_none (by rw[len_data];exact h)];rfl
    rw[this];rfl
  have HA:Hid (AtofAt B s (numVal s.data.toList)):=Lib.hid (by rw[show numVal s.data.toList=decL s.data.toList by rw[numVal,if_neg (by rw[HSM.out];simp),if_neg (by rw[hxf];simp)]];exact atof_dec B s (by omega) HP.out HE.out hh);have hc:((1:Int)<(s.size:Int))=False∨ ∃h:1<s.size,((1:Int)<(s.size:Int))=True∧(bits .or .u8 ((s[1].toNat:Nat):Int) 32==120)=false:=by
   rcases Nat.lt_or_ge 1 s.size with h|h
   ·right;refine⟨h,eq_true (by omega),?_⟩;have:=(hx h).2;rw[atB_lt h]at this;rw[show bits .or .u8 ((s[1].toNat:Nat):Int) 32=((s[1].toNat|||32:Nat):Int)from u8_or_nat s[1].toNat 32 (UInt8.toNat_lt _) (by omega)];exact beq_eq_false_iff_ne.2 (by omega)
   ·exact .inl (eq_false (by omega))
  clear hh hxf hx;rcases hc with q4|⟨hc,q4,ho⟩
  all_goals go_wp2_with fail
 case' true=>
  obtain⟨t,ht⟩: ∃t:ByteArray,t=s++⟨#[112,48]⟩:=⟨_,rfl⟩;obtain⟨k3,kz,kx,kok⟩:=shape_hex HP.out hh;rw[len_data]at k3;have htd:t.data.toList=s.data.toList++[112,48]:=by rw[ht];simp
  have htz:t.size=s.size+2:=by rw[←len_data,htd,List.length_append,len_data];rfl
  have HA:Hid (AtofAt B t (numVal s.data.toList)):=Lib.hid (by rw[show numVal s.data.toList=hexW s.data.toList by rw[numVal,if_neg (by rw[HSM.out];simp),if_pos kx]];exact atof_hex B s t (by omega) htd HP.out hh);have ho:(bits .or .u8 ((s[1].toNat:Nat):Int) 32==120)=true:=by
   have:=hex_isX kx;rw[atB_lt (by omega)]at this;rw[show bits .or .u8 ((s[1].toNat:Nat):Int) 32=((s[1].toNat|||32:Nat):Int)from u8_or_nat s[1].toNat 32 (UInt8.toNat_lt _) (by omega),this];rfl
  have HTE:=Lib.hid ht;clear kz kx kok hh htd ht;have q4:((1:Int)<(s.size:Int))=True:=eq_true (by omega);go_wp2_with fail;rw[←HTE.out]
 all_goals
  refine(st_parse (by omega) HA.out _ (HT.out.keep (HB3.out.mono HT.out.size))).mono ?_;rintro e w4 ⟨⟨u,rfl⟩,hb4⟩;have HB4:=Lib.hid (HB3.out.trans (hb4.mono HB3.out.size));clear hb4;go_wp2_with fail;refine(math_IsInf _ _).mono ?_;rintro e w5 ⟨rfl,rfl⟩;cases hi:isInfB (numVal s.data.toList)
  ·have hN0:numErr s.data.toList=0:=by rw[HNN.out,huge,HSM.out,hi];rfl
   have HN:=Lib.hid hN0;have HR:=Lib.hid (numRes_ok hN0 HI.out HJ.out);clear hN0;go_wp2_with fail;go_ret2;exact NumPost.mk' HR.out HN.out HB4.out
  ·have hN0:numErr s.data.toList=21:=by rw[HNN.out,huge,HSM.out,hi];rfl
   have HN:=Lib.hid hN0;clear hN0;go_wp2_with fail;go_ret2;exact NumPost.mk' (numRes_err HN.out (by omega)) HN.out HB4.out
def NumTabs (B:Nat) (w:World):Prop:= ∃B0,B0≤B∧NumTab B0 w
theorem numT:NumT (fun _=>True) NumTabs:=
 ⟨fun⟨B0,h1,h2⟩ hb=>⟨B0,h1,h2.keep (hb.mono h1)⟩,fun⟨B0,h1,h2⟩ hB=>⟨B0,Nat.le_trans h1 hB,h2⟩,fun s _ w _ ⟨B0,_,h2⟩ _ _=>(num_Read B0 s w h2).mono fun _ _ ⟨h1,h3⟩=>⟨⟨_,h1⟩,h3⟩⟩
end Go.Proofs.YtibcjfjacielbaaGreatDoor
