import Derived.Test.YtcdoilkjmjbgmaaGreatDoorS17
import Derived.Deep.Cut
import Derived.Deep.RegionLaw
import Derived.BigRegion
import Derived.Deep.RegionHeld3
import Derived.Deep.QuietTactic
import Derived.BigQuiet
/- Part of the proof of YtcdoilkjmjbgmaaGreatDoorCardY: ShelfB FpB FpC. -/
set_option maxRecDepth 100000
set_option maxHeartbeats 4000000
set_option linter.unusedVariables false
set_option linter.unusedSimpArgs false
namespace Go.Proofs
open Go.Shelf
open Go.Proofs.Tryz
def Tryz.Kc:Go.Shelf.Ren:=⟨fun|129=>224|n=>n,fun|53=>180|3=>3|4=>4|46=>196|5=>5|9=>9|n=>n,fun|n=>n⟩
theorem Tryz.Y1:Go.Proofs.Lays.n129 prog Tryz.Kc:={
 mixed:=by kernel_rfl
 f129:=func224.trans (cn some (by kernel_rfl))
 t3:=underlying3
 a3:=Tryz.isAgg3
 z3:=Tryz.sizeOf3
 v3:=Tryz.zeroValue3
 t4:=underlying4
 a4:=Tryz.isAgg4
 z4:=Tryz.sizeOf4
 v4:=Tryz.zeroValue4
 t5:=underlying5
 a5:=Tryz.isAgg5
 z5:=Tryz.sizeOf5
 v5:=Tryz.zeroValue5
 t9:=underlying9
 a9:=Tryz.isAgg9
 z9:=Tryz.sizeOf9
 v9:=Tryz.zeroValue9
 t46:=underlying196
 a46:=Tryz.isAgg196
 z46:=Tryz.sizeOf196
 v46:=Tryz.zeroValue196
 t53:=underlying180
 a53:=Tryz.isAgg180
 z53:=Tryz.sizeOf180
 v53:=Tryz.zeroValue180}
theorem Tryz.bits_Len64 (x:Int) (w:World) (h0:0≤x) (h1:x≤18446744073709551615):
  Calls prog 224 #[.int .u64 x] w fun e w'=>e= .returned (.int .i64 (Lib.bitLen x.toNat))∧w'=w:=Any.bits_Len64 Tryz.Y1 x w h0 h1
def Tryz.Kd:Go.Shelf.Ren:=⟨fun|318=>228|n=>n,fun|3=>3|4=>4|n=>n,fun|n=>n⟩
theorem Tryz.Y2:Go.Proofs.Lays.n318 prog Tryz.Kd:={
 mixed:=by kernel_rfl
 f318:=func228.trans (cn some (by kernel_rfl))
 t3:=underlying3
 a3:=Tryz.isAgg3
 z3:=Tryz.sizeOf3
 v3:=Tryz.zeroValue3
 t4:=underlying4
 a4:=Tryz.isAgg4
 z4:=Tryz.sizeOf4
 v4:=Tryz.zeroValue4}
open Go.Lib in
theorem Tryz.internal_strconv_bool2_int (b:Bool) (w:World):
  Calls prog 228 #[.bool b] w fun e w'=>e= .returned (.int .i64 (if b then 1 else 0))∧w'=w:=Any.internal_strconv_bool2_int Tryz.Y2 b w
def Tryz.GZ:Go.Shelf.Ren:=⟨fun|245=>184|279=>194|280=>195|281=>196|282=>197|316=>202|171=>204|205=>203|243=>218|246=>235|283=>240|284=>241|285=>242|286=>243|129=>224|317=>246|318=>228|319=>247|320=>248|337=>249|338=>250|n=>n,fun|9=>9|3=>3|75=>226|167=>249|4=>4|168=>250|210=>261|37=>147|0=>0|127=>285|145=>288|143=>286|2=>2|171=>313|53=>180|5=>5|173=>315|212=>322|51=>184|20=>20|213=>323|46=>196|232=>326|233=>327|80=>246|n=>n,fun|15=>2|16=>3|17=>12|18=>13|19=>14|n=>n⟩
theorem Tryz.Vl:Go.Proofs.LaysC.n245 prog Tryz.GZ:={
 mixed:=by kernel_rfl
 f129:=func224.trans (cn some (by kernel_rfl))
 f171:=func204.trans (cn some (by kernel_rfl))
 f205:=func203.trans (cn some (by kernel_rfl))
 f243:=func218.trans (cn some (by kernel_rfl))
 f245:=func184.trans (cn some (by kernel_rfl))
 f246:=func235.trans (cn some (by kernel_rfl))
 f279:=func194.trans (cn some (by kernel_rfl))
 f280:=func195.trans (cn some (by kernel_rfl))
 f281:=func196.trans (cn some (by kernel_rfl))
 f282:=func197.trans (cn some (by kernel_rfl))
 f283:=func240.trans (cn some (by kernel_rfl))
 f284:=func241.trans (cn some (by kernel_rfl))
 f285:=func242.trans (cn some (by kernel_rfl))
 f286:=func243.trans (cn some (by kernel_rfl))
 f316:=func202.trans (cn some (by kernel_rfl))
 f317:=func246.trans (cn some (by kernel_rfl))
 f318:=func228.trans (cn some (by kernel_rfl))
 f319:=func247.trans (cn some (by kernel_rfl))
 f320:=func248.trans (cn some (by kernel_rfl))
 f337:=func249.trans (cn some (by kernel_rfl))
 f338:=func250.trans (cn some (by kernel_rfl))
 t0:=underlying0
 a0:=Tryz.isAgg0
 z0:=Tryz.sizeOf0
 v0:=Tryz.zeroValue0
 t2:=underlying2
 a2:=Tryz.isAgg2
 z2:=Tryz.sizeOf2
 v2:=Tryz.zeroValue2
 t3:=underlying3
 a3:=Tryz.isAgg3
 z3:=Tryz.sizeOf3
 v3:=Tryz.zeroValue3
 t4:=underlying4
 a4:=Tryz.isAgg4
 z4:=Tryz.sizeOf4
 v4:=Tryz.zeroValue4
 t5:=underlying5
 a5:=Tryz.isAgg5
 z5:=Tryz.sizeOf5
 v5:=Tryz.zeroValue5
 t9:=underlying9
 a9:=Tryz.isAgg9
 z9:=Tryz.sizeOf9
 v9:=Tryz.zeroValue9
 t20:=underlying20
 a20:=Tryz.isAgg20
 z20:=Tryz.sizeOf20
 v20:=Tryz.zeroValue20
 t37:=underlying147
 a37:=Tryz.isAgg147
 z37:=Tryz.sizeOf147
 v37:=Tryz.zeroValue147
 t46:=underlying196
 a46:=Tryz.isAgg196
 z46:=Tryz.sizeOf196
 v46:=Tryz.zeroValue196
 t51:=underlying184
 a51:=Tryz.isAgg184
 z51:=Tryz.sizeOf184
 v51:=Tryz.zeroValue184
 t53:=underlying180
 a53:=Tryz.isAgg180
 z53:=Tryz.sizeOf180
 v53:=Tryz.zeroValue180
 t75:=underlying226
 a75:=Tryz.isAgg226
 z75:=Tryz.sizeOf226
 v75:=Tryz.zeroValue226
 t127:=underlying285
 a127:=Tryz.isAgg285
 z127:=Tryz.sizeOf285
 v127:=Tryz.zeroValue285
 t143:=underlying286
 a143:=Tryz.isAgg286
 z143:=Tryz.sizeOf286
 v143:=Tryz.zeroValue286
 t145:=underlying288
 a145:=Tryz.isAgg288
 z145:=Tryz.sizeOf288
 v145:=Tryz.zeroValue288
 t167:=underlying249
 a167:=Tryz.isAgg249
 z167:=Tryz.sizeOf249
 v167:=Tryz.zeroValue249
 t168:=underlying250
 a168:=Tryz.isAgg250
 z168:=Tryz.sizeOf250
 v168:=Tryz.zeroValue250
 t171:=underlying313
 a171:=Tryz.isAgg313
 z171:=Tryz.sizeOf313
 v171:=Tryz.zeroValue313
 t173:=underlying315
 a173:=Tryz.isAgg315
 z173:=Tryz.sizeOf315
 v173:=Tryz.zeroValue315
 t210:=underlying261
 a210:=Tryz.isAgg261
 z210:=Tryz.sizeOf261
 v210:=Tryz.zeroValue261
 t212:=underlying322
 a212:=Tryz.isAgg322
 z212:=Tryz.sizeOf322
 v212:=Tryz.zeroValue322
 t213:=underlying323
 a213:=Tryz.isAgg323
 z213:=Tryz.sizeOf323
 t232:=underlying326
 a232:=Tryz.isAgg326
 z232:=Tryz.sizeOf326
 v232:=Tryz.zeroValue326
 t233:=underlying327
 a233:=Tryz.isAgg327
 z233:=Tryz.sizeOf327
 v233:=Tryz.zeroValue327
 g15:=by kernel_rfl
 g16:=by kernel_rfl
 g17:=by kernel_rfl
 g18:=by kernel_rfl
 g19:=by kernel_rfl
 t80:=underlying246
 a80:=Tryz.isAgg246
 z80:=Tryz.sizeOf246
 v80:=Tryz.zeroValue246
 i0:=by kernel_rfl
 i2:=by kernel_rfl
 i3:=by kernel_rfl
 i4:=by kernel_rfl
 i5:=by kernel_rfl
 i9:=by kernel_rfl
 i20:=by kernel_rfl
 i37:=by kernel_rfl
 i46:=by kernel_rfl
 i51:=by kernel_rfl
 i53:=by kernel_rfl
 i75:=by kernel_rfl
 i80:=by kernel_rfl
 i127:=by kernel_rfl
 i143:=by kernel_rfl
 i145:=by kernel_rfl
 i167:=by kernel_rfl
 i168:=by kernel_rfl
 i171:=by kernel_rfl
 i173:=by kernel_rfl
 i210:=by kernel_rfl
 i212:=by kernel_rfl
 i232:=by kernel_rfl
 i233:=by kernel_rfl
 m15:=by kernel_rfl
 m16:=by kernel_rfl
 m17:=by kernel_rfl
 m18:=by kernel_rfl
 m19:=by kernel_rfl
 c0:=by kernel_rfl
 c2:=by kernel_rfl
 c3:=by kernel_rfl
 c4:=by kernel_rfl
 c5:=by kernel_rfl
 c9:=by kernel_rfl
 c20:=by kernel_rfl
 c37:=by kernel_rfl
 c46:=by kernel_rfl
 c51:=by kernel_rfl
 c53:=by kernel_rfl
 c75:=by kernel_rfl
 c80:=by kernel_rfl
 c127:=by kernel_rfl
 c143:=by kernel_rfl
 c145:=by kernel_rfl
 c167:=by kernel_rfl
 c168:=by kernel_rfl
 c171:=by kernel_rfl
 c173:=by kernel_rfl
 c210:=by kernel_rfl
 c212:=by kernel_rfl
 c213:=by kernel_rfl
 c232:=by kernel_rfl
 c233:=by kernel_rfl}
def Tryz.Ke:Go.Shelf.Ren:=⟨fun|321=>222|n=>n,fun|5=>5|n=>n,fun|n=>n⟩
theorem Tryz.Y3:Go.Proofs.Lays.n321 prog Tryz.Ke:={
 mixed:=by kernel_rfl
 f321:=func222.trans (cn some (by kernel_rfl))
 t5:=underlying5
 a5:=Tryz.isAgg5
 z5:=Tryz.sizeOf5
 v5:=Tryz.zeroValue5}
open Go.RowKit in
theorem Tryz.internal_strconv_lower (c:Int) (w:World):
  Calls prog 222 #[.int .u8 c] w fun e w'=>e= .returned (.int .u8 (bits .or .u8 c 32))∧w'=w:=Any.internal_strconv_lower Tryz.Y3 c w
open Go.RowKit in
theorem Tryz.strconv_toError_range (fn s:ByteArray) (base bits:Int) (ev:Value) (w:World) (akf:s.size≤281474976710656) (hv:w.cell? ⟨3,0,none⟩=some ev) (hev:ev= .nilIface∨ ∃te pe,ev= .iface te pe):
  Calls prog 184 #[.string fn,.string s,.int .i64 base,.int .i64 bits,.iface 249 (.int .i64 1)] w fun e w'=> ∃N,e= .returned (.iface 250 (.pointer (some ⟨N,0,none⟩)))∧w.heap.size≤N∧w'.heap[N]? =some (.cells #[.string fn,.string s,ev] 261 (0,0))∧Below w.heap.size w w':=Any.strconv_toError_range Tryz.Vl fn s base bits ev w akf hv hev
def Tryz.Kf:Go.Shelf.Ren:=⟨fun|264=>236|n=>n,fun|53=>180|46=>196|n=>n,fun|n=>n⟩
theorem Tryz.Y4:Go.Proofs.Lays.n264 prog Tryz.Kf:={
 mixed:=by kernel_rfl
 f264:=func236.trans (cn some (by kernel_rfl))
 t46:=underlying196
 a46:=Tryz.isAgg196
 z46:=Tryz.sizeOf196
 v46:=Tryz.zeroValue196
 t53:=underlying180
 a53:=Tryz.isAgg180
 z53:=Tryz.sizeOf180
 v53:=Tryz.zeroValue180}
open Go.RowKit Go.Lib in
theorem Tryz.bits_Mul64 (x y:Nat) (hx:x<18446744073709551616) (hy:y<18446744073709551616) (w:World):
  Calls prog 236 #[.int .u64 x,.int .u64 y] w fun e w'=>e= .returned (.tuple #[.int .u64 ((x*y/18446744073709551616:Nat):Int),.int .u64 ((x*y%18446744073709551616:Nat):Int)])∧w'=w:=Any.bits_Mul64 Tryz.Y4 x y hx hy w
end Go.Proofs
namespace Go.Proofs.YtcdoilkjmjbgmaaGreatDoor
open Go.RowKit
open Go.Proofs.Tryz
variable {hi mid m2 s:Nat}
theorem zq (b:Nat) (e p l:Int) (x0 x1 x2:Value) (i:Nat) (hi:p=(i:Int)-348) (wZ:i<696) (he: -5000≤e∧e≤5000) (hl: -5000≤l∧l≤5000) (w:World) (hb:aM w b 292 #[x0,x1,x2]) (H L:Nat)
  (c0:w.cell? ⟨10,i*2,none⟩=some (.int .u64 (H:Int))) (c1:w.cell? ⟨10,i*2+1,none⟩=some (.int .u64 (L:Int))) (hg:b≠10):
  Calls prog 226 #[.pointer (some ⟨b,0,none⟩),.int .i64 e,.int .i64 p,.int .i64 l] w fun e' w'=>e'= .returned (.tuple #[])∧aM w' b 292 #[.int .u64 (H:Int),.int .u64 (L:Int),.int .i64 (-(e+l+3))]∧Below b w w':=by
 have h1:IntKind.i64.wrap (p- -348)=(i:Int):=by rw[ou];omega
 have f0:=hb.frozen 0;have f1:=hb.frozen 1;have f2:=hb.frozen 2;have d0:w.cell? ⟨b,0,none⟩=some x0:=by rw[hb.cell];rfl
 have d1:w.cell? ⟨b,1,none⟩=some x1:=by rw[hb.cell];rfl
 have d2:w.cell? ⟨b,2,none⟩=some x2:=by rw[hb.cell];rfl
 go_enter func226,ntmps226;go_wp2_with fail;go_end0;refine⟨rfl,?_,?_⟩
 ·have:=((hb.dz 0 (.int .u64 (H:Int))).dz 1 (.int .u64 (L:Int))).dz 2 (.int .i64 (-(e+l+3)));simpa using this
 ·exact(((aU b w).setCell (p:=⟨b,0,none⟩) (aS _) _).setCell (p:=⟨b,1,none⟩) (aS _) _).setCell (p:=⟨b,2,none⟩) (aS _) _
theorem acb: ∀s:Fin 64,bits .and .i64 (s.val:Int) 63=(s.val:Int):=by decide+kernel
def nz (hi mid m2 s:Nat):Nat:=
 if hi/2^s*2^s≠hi then hi/2^s|||1 else(hi-(if mid<m2 then 1 else 0))/2^s|||(if 1<(mid+18446744073709551616-m2)%18446744073709551616 then 1 else 0)
theorem JB (x H L s:Nat):gH x H L s=nz (x*H/18446744073709551616) (x*H%18446744073709551616) (x*L/18446744073709551616) s:=rfl
theorem Kg (h:hi/2^s*2^s≠hi):nz hi mid m2 s=(hi/2^s|||1):=by rw[nz,az h]
theorem G0 (h:hi/2^s*2^s=hi) {t k:Nat} (ht:t=if mid<m2 then 1 else 0) (hk:k=if 1<(mid+18446744073709551616-m2)%18446744073709551616 then 1 else 0):
  nz hi mid m2 s=((hi-t)/2^s|||k):=by rw[nz,ah (fun h2=>h2 h),ht,hk]
theorem rQ (a s:Nat) (hs:s<64):((a:Int)/2^min s 64)=((a/2^s:Nat):Int):=by
 rw[show min s 64=s by omega];simp
theorem zt (a s:Nat) (hs:s<64) (h:a*2^s<18446744073709551616):IntKind.u64.wrap ((a:Int)*2^min s 64)=((a*2^s:Nat):Int):=by
 rw[show min s 64=s by omega,cZ];have:(a:Int)*2^s=((a*2^s:Nat):Int):=by simp
 rw[this];omega
theorem Nc (x b H L s hi mid m2 l2:Nat) (sP:1≤hi) (SY:hi<18446744073709551616) (XS:mid<18446744073709551616) (td:m2<18446744073709551616) (hs:s<64) (w:World) (hb:aM w b 292 #[.int .u64 (H:Int),.int .u64 (L:Int),.int .i64 (s:Int)])
  (hA: ∀w,Calls prog 236 #[.int .u64 (x:Int),.int .u64 (H:Int)] w fun e w'=>e= .returned (.tuple #[.int .u64 (hi:Int),.int .u64 (mid:Int)])∧w'=w)
  (hB: ∀w,Calls prog 236 #[.int .u64 (x:Int),.int .u64 (L:Int)] w fun e w'=>e= .returned (.tuple #[.int .u64 (m2:Int),.int .u64 (l2:Int)])∧w'=w):
  Calls prog 227 #[.int .u64 (x:Int),.pointer (some ⟨b,0,none⟩)] w fun e' w'=>e'= .returned (.int .u64 (nz hi mid m2 s:Nat))∧w'.heap=w.heap∧Below w.heap.size w w':=by
 have d0:w.cell? ⟨b,0,none⟩=some (.int .u64 (H:Int)):=by rw[hb.cell];rfl
 have d1:w.cell? ⟨b,1,none⟩=some (.int .u64 (L:Int)):=by rw[hb.cell];rfl
 have d2:w.cell? ⟨b,2,none⟩=some (.int .i64 (s:Int)):=by rw[hb.cell];rfl
 have h63:bits .and .i64 (s:Int) 63=(s:Int):=acb ⟨s,hs⟩;have e1:=rQ hi s hs;have hle:hi/2^s*2^s≤hi:=Iu _ _;have e2:=zt (hi/2^s) s hs (by omega);have ZM:hi/2^s≤hi:=Nat.div_le_self _ _;by_cases bW:hi/2^s*2^s≠hi
 ·have b0:(((hi/2^s*2^s:Nat):Int) != (hi:Int))=true:=by
   have: ¬((hi/2^s*2^s:Nat):Int)=(hi:Int):=by omega
   simpa [jo]using this
  have o1:bits .or .u64 ((hi/2^s:Nat):Int) 1=((hi/2^s|||1:Nat):Int):=qZ (hi/2^s) 1 (by omega) (by omega);have hT:=Kg (mid:=mid) (m2:=m2) bW;generalize hi/2^s*2^s=B at*
  generalize hi/2^s=A at*
  rw[hT];generalize (A|||1)=C at*
  clear sP SY XS td hs hT bW hle ZM;go_enter func227,ntmps227;go_wp2_with fail;refine(hA _).mono ?_;rintro e w' ⟨rfl,rfl⟩;go_wp2_with fail;go_ret;exact⟨rfl,rfl,aU _ _⟩
 ·have heq:hi/2^s*2^s=hi:=by simpa using bW
  have b0:(((hi/2^s*2^s:Nat):Int) != (hi:Int))=false:=by rw[heq];simp
  obtain⟨t,ht⟩: ∃t:Nat,t=if mid<m2 then 1 else 0:=⟨_,rfl⟩
  obtain⟨D,hD⟩: ∃D,D=(mid+18446744073709551616-m2)%18446744073709551616:=⟨_,rfl⟩;obtain⟨k,hk⟩: ∃k:Nat,k=if 1<D then 1 else 0:=⟨_,rfl⟩
  have ht1:t≤1:=by rw[ht];split<;>simp
  have mP:k≤1:=by rw[hk];split<;>simp
  have hT:nz hi mid m2 s=((hi-t)/2^s|||k):=G0 heq ht (by rw[←hD];exact hk);have e3:IntKind.u64.wrap ((hi:Int)-(t:Int))=((hi-t:Nat):Int):=by rw[cZ];omega
  have e4:IntKind.u64.wrap ((mid:Int)-(m2:Int))=(D:Int):=by rw[cZ];omega
  have e5:=rQ (hi-t) s hs;have hA2:(hi-t)/2^s≤hi-t:=Nat.div_le_self _ _;have o1:bits .or .u64 (((hi-t)/2^s:Nat):Int) (k:Int)=(((hi-t)/2^s|||k:Nat):Int):=qZ _ _ (by omega) (by omega);have t1: ∀[inst:Decidable (mid<m2)],(if @decide _ inst=true then(1:Int)else 0)=(t:Int):=by
   intro inst;by_cases aA:mid<m2
   ·rw[ht,az aA,az (dO aA)];rfl
   ·rw[ht,ah aA,ah (by rw[gj aA];simp)];rfl
  have t2: ∀[inst:Decidable ((1:Int)<(D:Int))],(@ite Int ((1:Int)<(D:Int)) inst 1 0)=(k:Int):=by
   intro inst;by_cases aA:1<D
   ·rw[hk,az aA,az (by omega)];rfl
   ·rw[hk,ah aA,ah (by omega)];rfl
  rw[hT];generalize hi/2^s*2^s=B at*
  generalize hi/2^s=A at*
  generalize ((hi-t)/2^s|||k)=C at*
  generalize (hi-t)/2^s=A2 at*
  generalize hi-t=h' at*
  clear sP SY XS td hs hT bW hle ZM heq ht hD hk ht1 mP hA2;go_enter func227,ntmps227;go_wp2_with fail;refine(hA _).mono ?_;rintro e w' ⟨rfl,rfl⟩;go_wp2_with fail;refine(hB _).mono ?_;rintro e w' ⟨rfl,rfl⟩;go_wp2_with fail;refine(mJ _ _).mono ?_;rintro e w' ⟨rfl,rfl⟩;rw[t1];go_wp2_with fail;go_quiet ((go_at_call 214;exact Calls.quiet_of_same ((mJ _ _).mono fun _ _ ⟨h1,h2⟩=>⟨h1,h2.symm⟩)));go_wp2_with fail
  all_goals
   go_ret;exact⟨rfl,rfl,bZ (aU _ _) _⟩
theorem QW (x b H L s:Nat) (hx:x<18446744073709551616) (hH:H<18446744073709551616) (hL:L<18446744073709551616) (hs:s<64) (lW:18446744073709551616≤x*H) (w:World) (hb:aM w b 292 #[.int .u64 (H:Int),.int .u64 (L:Int),.int .i64 (s:Int)]):
  Calls prog 227 #[.int .u64 (x:Int),.pointer (some ⟨b,0,none⟩)] w fun e' w'=>e'= .returned (.int .u64 (gH x H L s:Nat))∧w'.heap=w.heap∧Below w.heap.size w w':=by
 have h1:x*H<18446744073709551616*18446744073709551616:=Ei hx hH;have h2:x*L<18446744073709551616*18446744073709551616:=Ei hx hL;rw[JB];exact Nc x b H L s _ _ _ (x*L%18446744073709551616) ((Ea (by omega)).2 (by omega)) ((zJ (by omega)).2 h1) (my _ (by omega)) ((zJ (by omega)).2 h2) hs w hb
  (fun w=>Tryz.bits_Mul64 x H hx hH w) (fun w=>Tryz.bits_Mul64 x L hx hL w)
theorem Kh : ∀ (d : Nat), 0 < d → d < 18446744073709551616 → Lib.bitLen d = d.log2 + 1 := by
  intro d
  induction d using Nat.strongRecOn with
  | _ d ih =>
    intro h0 h1
    rw[Lib.bitLen_half d (by omega) (by omega)]
    by_cases h:d<2
    · have : d = 1 := by omega
      subst this;rfl
    · have h2 := Nat.log2_def d
      rw[az (by omega)]at h2
      rw[ih (d/2) (by omega) (by omega) (by omega),h2]
      omega
theorem Nd: ∀r∈Pinned.pow10Rows,9223372036854775808≤r.1∧r.1<18446744073709551616∧r.2<18446744073709551616:=by decide+kernel
theorem Fb:Pinned.pow10Rows.length=696:=by decide+kernel
theorem Nf (p:Int) (hp: -345≤p∧p≤310):9223372036854775808≤dW p∧dW p<18446744073709551616∧kP p<18446744073709551616:=by
 have hi:(p+348).toNat<Pinned.pow10Rows.length:=by rw[Fb];omega
 have hm:=Nd _ (jj hi);unfold dW kP;rw[lf,lJ hi];exact hm
theorem Ki (d B b sh s:Nat) (p l E S:Int) (H L x u:Nat) (hd:d<18446744073709551616) (w:World)
  (hlen:Lib.bitLen d=B) (hp: -345≤p∧p≤310) (hl:kO p=l)
  (w1:wrap64 (53-(B:Int))=53-(B:Int)) (w2:wrap64 (53-(B:Int)-l)=53-(B:Int)-l) (hE:min 1074 (53-(B:Int)-l)=E) (w3:wrap64 (64-(B:Int))=(sh:Int)) (w4:wrap64 (E-(sh:Int))=E-(sh:Int))
  (hS: -(E-(sh:Int)+l+3)=S) (hEb: -5000≤E-(sh:Int)∧E-(sh:Int)≤5000) (Hi: -5000≤l∧l≤5000)
  (i:Nat) (hi:p=(i:Int)-348) (wZ:i<696) (hg:10<w.heap.size)
  (c0:w.cell? ⟨10,i*2,none⟩=some (.int .u64 (H:Int))) (c1:w.cell? ⟨10,i*2+1,none⟩=some (.int .u64 (L:Int))) (hs:S<64) (Ak:u<144115188075855872) (Pm: -2000≤E∧E≤1074) (hsS:S=(s:Int))
  (hx:IntKind.u64.wrap ((d:Int)*2^min sh 64)=(x:Int)) (hu: ∀b w,aM w b 292 #[.int .u64 (H:Int),.int .u64 (L:Int),.int .i64 (s:Int)]→Calls prog 227 #[.int .u64 (x:Int),.pointer (some ⟨b,0,none⟩)] w fun e' w'=>e'= .returned (.int .u64 (u:Int))∧w'.heap=w.heap∧Below w.heap.size w w'):
  Calls prog 217 #[.int .u64 (d:Int),.int .i64 p,.int .u64 0] w fun e' w'=>e'= .returned (.tuple #[.float .f64 (lG (Po u) (-(E-(r6 u:Int)))),AS (ky (Po u) (-(E-(r6 u:Int))))])∧Below w.heap.size w w':=by
 have HL:=ae hlen;have HLL:=ae hl;have HS:=ae hS;have HI:=ae hi;have HSS:=ae hsS;have HD:=ae hd;have HE:=ae hEb;have HU:=ae hu;have HUB:=ae Ak;have R1:=ae Pm;clear hlen hl hi hS hsS hd hEb hu Ak Pm;go_enter func217,ntmps217;go_wp2_with fail;refine(Tryz.bits_Len64 d _ (by omega) (by have:=HD.out;omega)).mono ?_;rintro e w' ⟨rfl,rfl⟩;rw[mn,HL.out];go_wp2_with fail;refine(wT p (by omega) _).mono ?_;rintro e w' ⟨rfl,rfl⟩;rw[HLL.out];go_wp2_with fail;have Fy:=aM.new w' 292 #[.int .u64 0,.int .u64 0,.int .i64 0];have Xu:=(aU w'.heap.size w').alloc (aS _) (.cells #[.int .u64 0,.int .u64 0,.int .i64 0] 292);refine(zq w'.heap.size (E-(sh:Int)) p l _ _ _ i HI wZ HE Hi _ Fy H L ((Xu.cell hg).trans c0) ((Xu.cell hg).trans c1) (by omega)).mono ?_;rintro e w2 ⟨rfl,aQ,Xh⟩;rw[HS.out,HSS.out]at aQ;have arn:((64:Int)≤(s:Int))=False:=by have:=HSS.out;simp;omega
 have d2:w2.cell? ⟨w'.heap.size,2,none⟩=some (.int .i64 (s:Int)):=by rw[aQ.cell];rfl
 have PA:=ae (Xu.trans Xh);have bF:=ae aQ;clear Xu Xh Fy aQ;go_wp2_with fail;refine(HU _ _ bF).mono ?_;rintro e w3 ⟨rfl,hh,cu⟩;have fZ:=ae cu;clear hh cu;go_wp2_with fail;refine(Vk _).mono ?_;rintro e w4 ⟨rfl,rfl⟩;go_wp2_with fail;refine(Tryz.internal_strconv_bool2_int _ _).mono ?_;rintro e w4 ⟨rfl,rfl⟩;have hT: ∀[inst:Decidable ((36028797018963966:Int)≤(u:Int))],(if @decide _ inst=true then(1:Int)else 0)=(r6 u:Int):=by
  intro inst;unfold r6;by_cases aA:36028797018963966≤u
  ·rw[az aA,az (dO (by omega))];rfl
  ·rw[ah aA,ah (by rw[gj (by omega)];simp)];rfl
 have Ak:=HUB.out;have Pm:=R1.out;have ht1:r6 u≤1:=by unfold r6;split<;>simp
 rw[hT];obtain⟨m,hm⟩: ∃m,m=Po u:=⟨_,rfl⟩;have hmM:m=xw (u/2^r6 u|||(u&&&1)):=hm;obtain⟨t,htt⟩: ∃t,t=r6 u:=⟨_,rfl⟩;rw[←htt]at hmM ht1 ⊢
 have HM:=ae hm;have xb:=ae htt;clear hT hm htt;obtain⟨a,ha⟩: ∃a,a=u/2^t:=⟨_,rfl⟩;have ha1:a≤u:=by rw[ha];exact Nat.div_le_self _ _
 have f1:((u:Int)/2^min t 64)=(a:Int):=by rw[ha];exact rQ u t (by omega)
 obtain⟨u2,KT⟩: ∃u2,u2=(a|||(u&&&1)):=⟨_,rfl⟩;rw[←ha,←KT]at hmM;have υ:u2<144115188075855872:=by
  rw[KT];exact Ee (n:=57) (by omega) (by have:=Nat.and_le_left (n:=u) (m:=1);omega)
 have hmb:m<9223372036854775808:=by
  have h2:(u2/4&&&1)≤1:=Nat.and_le_right;rw[hmM,xw];omega
 have f2:bits .or .u64 (a:Int) (bits .and .u64 (u:Int) 1)=(u2:Int):=by
  rw[show bits .and .u64 (u:Int) 1=((u&&&1:Nat):Int)from vA u 1 (by omega) (by omega),qZ a (u&&&1) (by omega) (by have:=Nat.and_le_left (n:=u) (m:=1);omega),KT]
 have f3:wrap64 (E-(t:Int))=E-(t:Int):=by unfold wrap64;omega
 have f4:bits .or .u64 0 (m:Int)=(m:Int):=by
  have:=qZ 0 m (by omega) (by omega);rw[Nat.zero_or]at this;exact this
 have f5:wrap64 (-(E-(t:Int)))= -(E-(t:Int)):=by unfold wrap64;omega
 have Xv:=ae hmM;have HLT:=ae υ;have HMB:=ae hmb;have Sv:=ae ht1;clear hmM KT ha υ hmb ha1 Ak ht1 Pm;go_wp2_with fail;refine(Vj u2 (by have:=HLT.out;omega) _).mono ?_;rintro e w5 ⟨rfl,rfl⟩;rw[←Xv.out];go_wp2_with fail;refine(QV m (-(E-(t:Int))) HMB (by have:=R1.out;have:=Sv.out;omega) _).mono ?_;rintro e w5 ⟨rfl,rfl⟩;go_wp2_with fail;go_ret2;rw[←HM.out,←xb.out];exact⟨rfl,PA.trans (fZ.mono PA.size)⟩
theorem Kj (d B sh:Nat) (p l E S:Int) (H L:Nat) (hd:d<18446744073709551616) (w:World)
  (hlen:Lib.bitLen d=B) (hp: -345≤p∧p≤310) (hl:kO p=l)
  (w1:wrap64 (53-(B:Int))=53-(B:Int)) (w2:wrap64 (53-(B:Int)-l)=53-(B:Int)-l) (hE:min 1074 (53-(B:Int)-l)=E) (w3:wrap64 (64-(B:Int))=(sh:Int)) (w4:wrap64 (E-(sh:Int))=E-(sh:Int))
  (hS: -(E-(sh:Int)+l+3)=S) (hEb: -5000≤E-(sh:Int)∧E-(sh:Int)≤5000) (Hi: -5000≤l∧l≤5000)
  (i:Nat) (hi:p=(i:Int)-348) (wZ:i<696) (hg:10<w.heap.size)
  (c0:w.cell? ⟨10,i*2,none⟩=some (.int .u64 (H:Int))) (c1:w.cell? ⟨10,i*2+1,none⟩=some (.int .u64 (L:Int))) (hs:64≤S):
  Calls prog 217 #[.int .u64 (d:Int),.int .i64 p,.int .u64 0] w fun e' w'=>e'= .returned (.tuple #[.float .f64 0,.nilIface])∧Below w.heap.size w w':=by
 have HL:=ae hlen;have HLL:=ae hl;have HS:=ae hS;have HI:=ae hi;have HD:=ae hd;have HE:=ae hEb;clear hlen hl hi hS hd hEb;go_enter func217,ntmps217;go_wp2_with fail;refine(Tryz.bits_Len64 d _ (by omega) (by have:=HD.out;omega)).mono ?_;rintro e w' ⟨rfl,rfl⟩;rw[mn,HL.out];go_wp2_with fail;refine(wT p (by omega) _).mono ?_;rintro e w' ⟨rfl,rfl⟩;rw[HLL.out];go_wp2_with fail;have Fy:=aM.new w' 292 #[.int .u64 0,.int .u64 0,.int .i64 0];have Xu:=(aU w'.heap.size w').alloc (aS _) (.cells #[.int .u64 0,.int .u64 0,.int .i64 0] 292);refine(zq w'.heap.size (E-(sh:Int)) p l _ _ _ i HI wZ HE Hi _ Fy H L ((Xu.cell hg).trans c0) ((Xu.cell hg).trans c1) (by omega)).mono ?_;rintro e w2 ⟨rfl,aQ,Xh⟩;rw[HS.out]at aQ;have d2:w2.cell? ⟨w'.heap.size,2,none⟩=some (.int .i64 S):=by rw[aQ.cell];rfl
 have f4:bits .or .u64 0 0=0:=by decide+kernel
 have PA:=ae (Xu.trans Xh);clear Xu Xh Fy aQ;go_wp2_with fail;rw[dN];rw[jQ];go_wp2_with fail;go_ret2;exact⟨rfl,PA⟩
theorem Vm (d:Nat) (h0:0<d) (h:d<18446744073709551616):9223372036854775808≤d*2^(63-d.log2)∧d*2^(63-d.log2)<18446744073709551616:=by
 have h1:d.log2<64:=(Nat.log2_lt (by omega)).2 (by omega);have h2:2^d.log2≤d:=Nat.log2_self_le (by omega);have h3:d<2^(d.log2+1):=A3;have h4:2^d.log2*2^(63-d.log2)=9223372036854775808:=by rw[←dV,show d.log2+(63-d.log2)=63 by omega]
 have h5:2^(d.log2+1)*2^(63-d.log2)=18446744073709551616:=by rw[←dV,show d.log2+1+(63-d.log2)=64 by omega]
 have h6:0<2^(63-d.log2):=Nat.two_pow_pos _;constructor
 ·rw[←h4];exact fg _ h2
 ·rw[←h5];exact qB h3 h6
theorem Ng (p:Int) (hp: -345≤p∧p≤310): -1200≤kO p∧kO p≤1100:=by unfold kO;omega
theorem Nh (x H L s:Nat) (hx:x<18446744073709551616) (hH:H<18446744073709551616) (hs:8≤s):gH x H L s<144115188075855872:=by
 have h1:x*H<18446744073709551616*18446744073709551616:=Ei hx hH;have h2:x*H/18446744073709551616<18446744073709551616:=(zJ (by omega)).2 h1;have h3: ∀y,y<18446744073709551616→y/2^s<144115188075855872:=by
  intro y hy;have h4:2^8≤2^s:=dZ (by omega) hs;have h5:y/2^s≤y/2^8:=Og h4 (by omega);omega
 rw[JB,nz];split
 ·exact Ee (n:=57) (h3 _ h2) (by omega)
 ·refine Ee (n:=57) (h3 _ (by omega)) ?_;split<;>omega
theorem uC (d:Nat) (p:Int) (Pq:0<d) (hd:d<18446744073709551616) (hp: -345≤p∧p≤310) (w:World) (hg:10<w.heap.size)
  (c0:w.cell? ⟨10,(p+348).toNat*2,none⟩=some (.int .u64 (dW p:Int))) (c1:w.cell? ⟨10,(p+348).toNat*2+1,none⟩=some (.int .u64 (kP p:Int))):
  Calls prog 217 #[.int .u64 (d:Int),.int .i64 p,.int .u64 0] w fun e' w'=>e'= .returned (.tuple #[.float .f64 (lp d p),AS (IN d p)])∧Below w.heap.size w w':=by
 have h1:d.log2<64:=(Nat.log2_lt (by omega)).2 (by omega);have hlen:=Kh d Pq hd;have hl:=Ng p hp;have hf:=Nf p hp;have hx:=Vm d Pq hd;have hEd:Dh d p=min 1074 (53-((d.log2+1:Nat):Int)-kO p):=rfl;have hSd:uV d p= -(Dh d p-(64-((d.log2+1:Nat):Int))+kO p+3):=rfl;have Pm: -2000≤Dh d p∧Dh d p≤1074:=by omega
 have hS8:8≤uV d p:=by omega
 have w1:wrap64 (53-((d.log2+1:Nat):Int))=53-((d.log2+1:Nat):Int):=by unfold wrap64;omega
 have w2:wrap64 (53-((d.log2+1:Nat):Int)-kO p)=53-((d.log2+1:Nat):Int)-kO p:=by unfold wrap64;omega
 have w3:wrap64 (64-((d.log2+1:Nat):Int))=((63-d.log2:Nat):Int):=by unfold wrap64;omega
 have w4:wrap64 (Dh d p-((63-d.log2:Nat):Int))=Dh d p-((63-d.log2:Nat):Int):=by unfold wrap64;omega
 by_cases hs:64≤uV d p
 ·have e1:lp d p=0:=by rw[lp,az hs]
  have e2:IN d p=false:=by rw[IN,az hs]
  rw[e1,e2];exact Kj d (d.log2+1) (63-d.log2) p (kO p) (Dh d p) (uV d p) (dW p) (kP p) hd w hlen hp rfl w1 w2 hEd.symm w3 w4 (by omega) (by omega) (by omega) (p+348).toNat (by omega) (by omega) hg c0 c1 hs
 ·have e1:lp d p=lG (Po (Lo d p)) (-(Dh d p-(r6 (Lo d p):Int))):=by rw[lp,ah hs]
  have e2:IN d p=ky (Po (Lo d p)) (-(Dh d p-(r6 (Lo d p):Int))):=by rw[IN,ah hs]
  rw[e1,e2];have hxw:IntKind.u64.wrap ((d:Int)*2^min (63-d.log2) 64)=((d*2^(63-d.log2):Nat):Int):=zt d (63-d.log2) (by omega) hx.2;exact Ki d (d.log2+1) 0 (63-d.log2) (uV d p).toNat p (kO p) (Dh d p) (uV d p) (dW p) (kP p) (d*2^(63-d.log2)) (Lo d p) hd w hlen hp rfl w1 w2 hEd.symm w3 w4 (by omega) (by omega) (by omega) (p+348).toNat (by omega) (by omega) hg c0 c1 (by omega)
   (Nh _ _ _ _ hx.2 hf.2.1 (by omega)) Pm (by omega) hxw (fun b w hb=>QW _ b _ _ _ hx.2 hf.2.1 hf.2.2 (by omega) (by
    have:=ov hx.1 hf.1;omega) w hb)
