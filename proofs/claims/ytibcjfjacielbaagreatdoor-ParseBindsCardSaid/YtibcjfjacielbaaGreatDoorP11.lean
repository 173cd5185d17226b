import Derived.Test.YtibcjfjacielbaaGreatDoorP10
import Derived.Deep.Cut
import Derived.Deep.RegionLaw
import Derived.BigRegion
import Derived.Deep.RegionHeld3
import Derived.Deep.QuietTactic
import Derived.BigQuiet
/- Part of the proof of YtibcjfjacielbaaGreatDoorCardP: ShelfB FpB FpC. -/
set_option maxRecDepth 100000
set_option maxHeartbeats 4000000
set_option linter.unusedVariables false
set_option linter.unusedSimpArgs false
namespace Go.Proofs
open Go.Shelf
def Tryz.lays129_ren:Go.Shelf.Ren:=⟨fun|129=>318|n=>n,fun|53=>252|3=>3|4=>4|46=>220|5=>5|9=>9|n=>n,fun|n=>n⟩
theorem Tryz.lays129:Go.Proofs.Lays.n129 Tryz.prog Tryz.lays129_ren:={
 mixed:=by kernel_rfl
 f129:=Tryz.func318.trans (congrArg some (by kernel_rfl))
 t3:=Tryz.underlying3
 a3:=Tryz.isAgg3
 z3:=Tryz.sizeOf3
 v3:=Tryz.zeroValue3
 t4:=Tryz.underlying4
 a4:=Tryz.isAgg4
 z4:=Tryz.sizeOf4
 v4:=Tryz.zeroValue4
 t5:=Tryz.underlying5
 a5:=Tryz.isAgg5
 z5:=Tryz.sizeOf5
 v5:=Tryz.zeroValue5
 t9:=Tryz.underlying9
 a9:=Tryz.isAgg9
 z9:=Tryz.sizeOf9
 v9:=Tryz.zeroValue9
 t46:=Tryz.underlying220
 a46:=Tryz.isAgg220
 z46:=Tryz.sizeOf220
 v46:=Tryz.zeroValue220
 t53:=Tryz.underlying252
 a53:=Tryz.isAgg252
 z53:=Tryz.sizeOf252
 v53:=Tryz.zeroValue252}
theorem Tryz.bits_Len64 (x:Int) (w:World) (h0:0≤x) (h1:x≤18446744073709551615):
  Calls Tryz.prog 318 #[.int .u64 x] w fun e w'=>e= .returned (.int .i64 (Lib.bitLen x.toNat))∧w'=w:=Any.bits_Len64 Tryz.lays129 x w h0 h1
def Tryz.lays318_ren:Go.Shelf.Ren:=⟨fun|318=>322|n=>n,fun|3=>3|4=>4|n=>n,fun|n=>n⟩
theorem Tryz.lays318:Go.Proofs.Lays.n318 Tryz.prog Tryz.lays318_ren:={
 mixed:=by kernel_rfl
 f318:=Tryz.func322.trans (congrArg some (by kernel_rfl))
 t3:=Tryz.underlying3
 a3:=Tryz.isAgg3
 z3:=Tryz.sizeOf3
 v3:=Tryz.zeroValue3
 t4:=Tryz.underlying4
 a4:=Tryz.isAgg4
 z4:=Tryz.sizeOf4
 v4:=Tryz.zeroValue4}
open Go.Lib in
theorem Tryz.internal_strconv_bool2_int (b:Bool) (w:World):
  Calls Tryz.prog 322 #[.bool b] w fun e w'=>e= .returned (.int .i64 (if b then 1 else 0))∧w'=w:=Any.internal_strconv_bool2_int Tryz.lays318 b w
def Tryz.laysC245_ren:Go.Shelf.Ren:=⟨fun|245=>264|279=>282|280=>283|281=>284|282=>285|316=>295|171=>297|205=>296|243=>312|246=>329|283=>334|284=>335|285=>336|286=>337|129=>318|317=>340|318=>322|319=>341|320=>342|337=>343|338=>344|n=>n,fun|9=>9|3=>3|75=>146|167=>318|4=>4|168=>319|210=>332|37=>142|0=>0|127=>228|145=>359|143=>357|2=>2|171=>383|53=>252|5=>5|173=>385|212=>392|51=>256|20=>20|213=>393|46=>220|232=>396|233=>397|80=>150|n=>n,fun|15=>3|16=>4|17=>13|18=>14|19=>15|n=>n⟩
theorem Tryz.laysC245:Go.Proofs.LaysC.n245 Tryz.prog Tryz.laysC245_ren:={
 mixed:=by kernel_rfl
 f129:=Tryz.func318.trans (congrArg some (by kernel_rfl))
 f171:=Tryz.func297.trans (congrArg some (by kernel_rfl))
 f205:=Tryz.func296.trans (congrArg some (by kernel_rfl))
 f243:=Tryz.func312.trans (congrArg some (by kernel_rfl))
 f245:=Tryz.func264.trans (congrArg some (by kernel_rfl))
 f246:=Tryz.func329.trans (congrArg some (by kernel_rfl))
 f279:=Tryz.func282.trans (congrArg some (by kernel_rfl))
 f280:=Tryz.func283.trans (congrArg some (by kernel_rfl))
 f281:=Tryz.func284.trans (congrArg some (by kernel_rfl))
 f282:=Tryz.func285.trans (congrArg some (by kernel_rfl))
 f283:=Tryz.func334.trans (congrArg some (by kernel_rfl))
 f284:=Tryz.func335.trans (congrArg some (by kernel_rfl))
 f285:=Tryz.func336.trans (congrArg some (by kernel_rfl))
 f286:=Tryz.func337.trans (congrArg some (by kernel_rfl))
 f316:=Tryz.func295.trans (congrArg some (by kernel_rfl))
 f317:=Tryz.func340.trans (congrArg some (by kernel_rfl))
 f318:=Tryz.func322.trans (congrArg some (by kernel_rfl))
 f319:=Tryz.func341.trans (congrArg some (by kernel_rfl))
 f320:=Tryz.func342.trans (congrArg some (by kernel_rfl))
 f337:=Tryz.func343.trans (congrArg some (by kernel_rfl))
 f338:=Tryz.func344.trans (congrArg some (by kernel_rfl))
 t0:=Tryz.underlying0
 a0:=Tryz.isAgg0
 z0:=Tryz.sizeOf0
 v0:=Tryz.zeroValue0
 t2:=Tryz.underlying2
 a2:=Tryz.isAgg2
 z2:=Tryz.sizeOf2
 v2:=Tryz.zeroValue2
 t3:=Tryz.underlying3
 a3:=Tryz.isAgg3
 z3:=Tryz.sizeOf3
 v3:=Tryz.zeroValue3
 t4:=Tryz.underlying4
 a4:=Tryz.isAgg4
 z4:=Tryz.sizeOf4
 v4:=Tryz.zeroValue4
 t5:=Tryz.underlying5
 a5:=Tryz.isAgg5
 z5:=Tryz.sizeOf5
 v5:=Tryz.zeroValue5
 t9:=Tryz.underlying9
 a9:=Tryz.isAgg9
 z9:=Tryz.sizeOf9
 v9:=Tryz.zeroValue9
 t20:=Tryz.underlying20
 a20:=Tryz.isAgg20
 z20:=Tryz.sizeOf20
 v20:=Tryz.zeroValue20
 t37:=Tryz.underlying142
 a37:=Tryz.isAgg142
 z37:=Tryz.sizeOf142
 v37:=Tryz.zeroValue142
 t46:=Tryz.underlying220
 a46:=Tryz.isAgg220
 z46:=Tryz.sizeOf220
 v46:=Tryz.zeroValue220
 t51:=Tryz.underlying256
 a51:=Tryz.isAgg256
 z51:=Tryz.sizeOf256
 v51:=Tryz.zeroValue256
 t53:=Tryz.underlying252
 a53:=Tryz.isAgg252
 z53:=Tryz.sizeOf252
 v53:=Tryz.zeroValue252
 t75:=Tryz.underlying146
 a75:=Tryz.isAgg146
 z75:=Tryz.sizeOf146
 v75:=Tryz.zeroValue146
 t127:=Tryz.underlying228
 a127:=Tryz.isAgg228
 z127:=Tryz.sizeOf228
 v127:=Tryz.zeroValue228
 t143:=Tryz.underlying357
 a143:=Tryz.isAgg357
 z143:=Tryz.sizeOf357
 v143:=Tryz.zeroValue357
 t145:=Tryz.underlying359
 a145:=Tryz.isAgg359
 z145:=Tryz.sizeOf359
 v145:=Tryz.zeroValue359
 t167:=Tryz.underlying318
 a167:=Tryz.isAgg318
 z167:=Tryz.sizeOf318
 v167:=Tryz.zeroValue318
 t168:=Tryz.underlying319
 a168:=Tryz.isAgg319
 z168:=Tryz.sizeOf319
 v168:=Tryz.zeroValue319
 t171:=Tryz.underlying383
 a171:=Tryz.isAgg383
 z171:=Tryz.sizeOf383
 v171:=Tryz.zeroValue383
 t173:=Tryz.underlying385
 a173:=Tryz.isAgg385
 z173:=Tryz.sizeOf385
 v173:=Tryz.zeroValue385
 t210:=Tryz.underlying332
 a210:=Tryz.isAgg332
 z210:=Tryz.sizeOf332
 v210:=Tryz.zeroValue332
 t212:=Tryz.underlying392
 a212:=Tryz.isAgg392
 z212:=Tryz.sizeOf392
 v212:=Tryz.zeroValue392
 t213:=Tryz.underlying393
 a213:=Tryz.isAgg393
 z213:=Tryz.sizeOf393
 t232:=Tryz.underlying396
 a232:=Tryz.isAgg396
 z232:=Tryz.sizeOf396
 v232:=Tryz.zeroValue396
 t233:=Tryz.underlying397
 a233:=Tryz.isAgg397
 z233:=Tryz.sizeOf397
 v233:=Tryz.zeroValue397
 g15:=by kernel_rfl
 g16:=by kernel_rfl
 g17:=by kernel_rfl
 g18:=by kernel_rfl
 g19:=by kernel_rfl
 t80:=Tryz.underlying150
 a80:=Tryz.isAgg150
 z80:=Tryz.sizeOf150
 v80:=Tryz.zeroValue150
 i0:=by kernel_rfl
 i2:=by kernel_rfl
 i3:=by kernel_rfl
 i4:=by kernel_rfl
 i5:=by kernel_rfl
 i9:=by kernel_rfl
 i20:=by kernel_rfl
 i37:=by kernel_rfl
 i46:=by kernel_rfl
 i51:=by kernel_rfl
 i53:=by kernel_rfl
 i75:=by kernel_rfl
 i80:=by kernel_rfl
 i127:=by kernel_rfl
 i143:=by kernel_rfl
 i145:=by kernel_rfl
 i167:=by kernel_rfl
 i168:=by kernel_rfl
 i171:=by kernel_rfl
 i173:=by kernel_rfl
 i210:=by kernel_rfl
 i212:=by kernel_rfl
 i232:=by kernel_rfl
 i233:=by kernel_rfl
 m15:=by kernel_rfl
 m16:=by kernel_rfl
 m17:=by kernel_rfl
 m18:=by kernel_rfl
 m19:=by kernel_rfl
 c0:=by kernel_rfl
 c2:=by kernel_rfl
 c3:=by kernel_rfl
 c4:=by kernel_rfl
 c5:=by kernel_rfl
 c9:=by kernel_rfl
 c20:=by kernel_rfl
 c37:=by kernel_rfl
 c46:=by kernel_rfl
 c51:=by kernel_rfl
 c53:=by kernel_rfl
 c75:=by kernel_rfl
 c80:=by kernel_rfl
 c127:=by kernel_rfl
 c143:=by kernel_rfl
 c145:=by kernel_rfl
 c167:=by kernel_rfl
 c168:=by kernel_rfl
 c171:=by kernel_rfl
 c173:=by kernel_rfl
 c210:=by kernel_rfl
 c212:=by kernel_rfl
 c213:=by kernel_rfl
 c232:=by kernel_rfl
 c233:=by kernel_rfl}
def Tryz.lays321_ren:Go.Shelf.Ren:=⟨fun|321=>316|n=>n,fun|5=>5|n=>n,fun|n=>n⟩
theorem Tryz.lays321:Go.Proofs.Lays.n321 Tryz.prog Tryz.lays321_ren:={
 mixed:=by kernel_rfl
 f321:=Tryz.func316.trans (congrArg some (by kernel_rfl))
 t5:=Tryz.underlying5
 a5:=Tryz.isAgg5
 z5:=Tryz.sizeOf5
 v5:=Tryz.zeroValue5}
open Go.RowKit in
theorem Tryz.internal_strconv_lower (c:Int) (w:World):
  Calls Tryz.prog 316 #[.int .u8 c] w fun e w'=>e= .returned (.int .u8 (bits .or .u8 c 32))∧w'=w:=Any.internal_strconv_lower Tryz.lays321 c w
open Go.RowKit in
theorem Tryz.strconv_toError_range (fn s:ByteArray) (base bits:Int) (ev:Value) (w:World) (hlim:s.size≤281474976710656) (hv:w.cell? ⟨4,0,none⟩=some ev) (hev:ev= .nilIface∨ ∃te pe,ev= .iface te pe):
  Calls Tryz.prog 264 #[.string fn,.string s,.int .i64 base,.int .i64 bits,.iface 318 (.int .i64 1)] w fun e w'=> ∃N,e= .returned (.iface 319 (.pointer (some ⟨N,0,none⟩)))∧w.heap.size≤N∧w'.heap[N]? =some (.cells #[.string fn,.string s,ev] 332 (0,0))∧Below w.heap.size w w':=Any.strconv_toError_range Tryz.laysC245 fn s base bits ev w hlim hv hev
def Tryz.lays264_ren:Go.Shelf.Ren:=⟨fun|264=>330|n=>n,fun|53=>252|46=>220|n=>n,fun|n=>n⟩
theorem Tryz.lays264:Go.Proofs.Lays.n264 Tryz.prog Tryz.lays264_ren:={
 mixed:=by kernel_rfl
 f264:=Tryz.func330.trans (congrArg some (by kernel_rfl))
 t46:=Tryz.underlying220
 a46:=Tryz.isAgg220
 z46:=Tryz.sizeOf220
 v46:=Tryz.zeroValue220
 t53:=Tryz.underlying252
 a53:=Tryz.isAgg252
 z53:=Tryz.sizeOf252
 v53:=Tryz.zeroValue252}
open Go.RowKit Go.Lib in
theorem Tryz.bits_Mul64 (x y:Nat) (hx:x<18446744073709551616) (hy:y<18446744073709551616) (w:World):
  Calls Tryz.prog 330 #[.int .u64 x,.int .u64 y] w fun e w'=>e= .returned (.tuple #[.int .u64 ((x*y/18446744073709551616:Nat):Int),.int .u64 ((x*y%18446744073709551616:Nat):Int)])∧w'=w:=Any.bits_Mul64 Tryz.lays264 x y hx hy w
end Go.Proofs
set_option linter.unusedVariables false
set_option linter.unusedSimpArgs false
namespace Go.Proofs.YtibcjfjacielbaaGreatDoor
open Go.RowKit
theorem fp_prescale (b:Nat) (e p l:Int) (x0 x1 x2:Value) (i:Nat) (hi:p=(i:Int)-348) (hi2:i<696) (he: -5000≤e∧e≤5000) (hl: -5000≤l∧l≤5000) (w:World) (hb:Blk w b 363 #[x0,x1,x2]) (H L:Nat)
  (c0:w.cell? ⟨11,i*2,none⟩=some (.int .u64 (H:Int))) (c1:w.cell? ⟨11,i*2+1,none⟩=some (.int .u64 (L:Int))) (hg:b≠11):
  Calls Tryz.prog 320 #[.pointer (some ⟨b,0,none⟩),.int .i64 e,.int .i64 p,.int .i64 l] w fun e' w'=>e'= .returned (.tuple #[])∧Blk w' b 363 #[.int .u64 (H:Int),.int .u64 (L:Int),.int .i64 (-(e+l+3))]∧Below b w w':=by
 have h1:IntKind.i64.wrap (p- -348)=(i:Int):=by rw[IntKind.wrap_i64];omega
 have f0:=hb.frozen 0;have f1:=hb.frozen 1;have f2:=hb.frozen 2;have d0:w.cell? ⟨b,0,none⟩=some x0:=by rw[hb.cell];rfl
 have d1:w.cell? ⟨b,1,none⟩=some x1:=by rw[hb.cell];rfl
 have d2:w.cell? ⟨b,2,none⟩=some x2:=by rw[hb.cell];rfl
 go_enter Tryz.func320,Tryz.ntmps320;go_wp2_with fail;go_end0;refine⟨rfl,?_,?_⟩
 ·have:=((hb.set_ 0 (.int .u64 (H:Int))).set_ 1 (.int .u64 (L:Int))).set_ 2 (.int .i64 (-(e+l+3)));simpa using this
 ·exact(((Below.refl b w).setCell (p:=⟨b,0,none⟩) (Nat.le_refl _) _).setCell (p:=⟨b,1,none⟩) (Nat.le_refl _) _).setCell (p:=⟨b,2,none⟩) (Nat.le_refl _) _
theorem and63F: ∀s:Fin 64,bits .and .i64 (s.val:Int) 63=(s.val:Int):=by decide+kernel
def uscaleT (hi mid m2 s:Nat):Nat:=
 if hi/2^s*2^s≠hi then hi/2^s|||1 else(hi-(if mid<m2 then 1 else 0))/2^s|||(if 1<(mid+18446744073709551616-m2)%18446744073709551616 then 1 else 0)
theorem uscale_T (x H L s:Nat):uscaleN x H L s=uscaleT (x*H/18446744073709551616) (x*H%18446744073709551616) (x*L/18446744073709551616) s:=rfl
theorem uscaleT_big {hi mid m2 s:Nat} (h:hi/2^s*2^s≠hi):uscaleT hi mid m2 s=(hi/2^s|||1):=by rw[uscaleT,if_pos h]
theorem uscaleT_fine {hi mid m2 s:Nat} (h:hi/2^s*2^s=hi) {t k:Nat} (ht:t=if mid<m2 then 1 else 0) (hk:k=if 1<(mid+18446744073709551616-m2)%18446744073709551616 then 1 else 0):
  uscaleT hi mid m2 s=((hi-t)/2^s|||k):=by rw[uscaleT,if_neg (fun h2=>h2 h),ht,hk]
theorem div_pow_int (a s:Nat) (hs:s<64):((a:Int)/2^min s 64)=((a/2^s:Nat):Int):=by
 rw[show min s 64=s by omega];simp
theorem mul_pow_int (a s:Nat) (hs:s<64) (h:a*2^s<18446744073709551616):IntKind.u64.wrap ((a:Int)*2^min s 64)=((a*2^s:Nat):Int):=by
 rw[show min s 64=s by omega,IntKind.wrap_u64];have:(a:Int)*2^s=((a*2^s:Nat):Int):=by simp
 rw[this];omega
theorem fp_uscaleT (x b H L s hi mid m2 l2:Nat) (hhi:1≤hi) (hhi2:hi<18446744073709551616) (hmid:mid<18446744073709551616) (hm2:m2<18446744073709551616) (hs:s<64) (w:World) (hb:Blk w b 363 #[.int .u64 (H:Int),.int .u64 (L:Int),.int .i64 (s:Int)])
  (hA: ∀w,Calls Tryz.prog 330 #[.int .u64 (x:Int),.int .u64 (H:Int)] w fun e w'=>e= .returned (.tuple #[.int .u64 (hi:Int),.int .u64 (mid:Int)])∧w'=w)
  (hB: ∀w,Calls Tryz.prog 330 #[.int .u64 (x:Int),.int .u64 (L:Int)] w fun e w'=>e= .returned (.tuple #[.int .u64 (m2:Int),.int .u64 (l2:Int)])∧w'=w):
  Calls Tryz.prog 321 #[.int .u64 (x:Int),.pointer (some ⟨b,0,none⟩)] w fun e' w'=>e'= .returned (.int .u64 (uscaleT hi mid m2 s:Nat))∧w'.heap=w.heap∧Below w.heap.size w w':=by
 have d0:w.cell? ⟨b,0,none⟩=some (.int .u64 (H:Int)):=by rw[hb.cell];rfl
 have d1:w.cell? ⟨b,1,none⟩=some (.int .u64 (L:Int)):=by rw[hb.cell];rfl
 have d2:w.cell? ⟨b,2,none⟩=some (.int .i64 (s:Int)):=by rw[hb.cell];rfl
 have h63:bits .and .i64 (s:Int) 63=(s:Int):=and63F ⟨s,hs⟩;have e1:=div_pow_int hi s hs;have hle:hi/2^s*2^s≤hi:=Nat.div_mul_le_self _ _;have e2:=mul_pow_int (hi/2^s) s hs (by omega);have hA1:hi/2^s≤hi:=Nat.div_le_self _ _;by_cases hne:hi/2^s*2^s≠hi
 ·have b0:(((hi/2^s*2^s:Nat):Int) != (hi:Int))=true:=by
   have: ¬((hi/2^s*2^s:Nat):Int)=(hi:Int):=by omega
   simpa [bne_iff_ne]using this
  have o1:bits .or .u64 ((hi/2^s:Nat):Int) 1=((hi/2^s|||1:Nat):Int):=u64_or_nat (hi/2^s) 1 (by omega) (by omega);have hT:=uscaleT_big (mid:=mid) (m2:=m2) hne;generalize hi/2^s*2^s=B at*
  generalize hi/2^s=A at*
  rw[hT];generalize (A|||1)=C at*
  clear hhi hhi2 hmid hm2 hs hT hne hle hA1;go_enter Tryz.func321,Tryz.ntmps321;go_wp2_with fail;refine(hA _).mono ?_;rintro e w' ⟨rfl,rfl⟩;go_wp2_with fail;go_ret;exact⟨rfl,rfl,Below.refl _ _⟩
 ·have heq:hi/2^s*2^s=hi:=by simpa using hne
  have b0:(((hi/2^s*2^s:Nat):Int) != (hi:Int))=false:=by rw[heq];simp
  obtain⟨t,ht⟩: ∃t:Nat,t=if mid<m2 then 1 else 0:=⟨_,rfl⟩
  obtain⟨D,hD⟩: ∃D,D=(mid+18446744073709551616-m2)%18446744073709551616:=⟨_,rfl⟩;obtain⟨k,hk⟩: ∃k:Nat,k=if 1<D then 1 else 0:=⟨_,rfl⟩
  have ht1:t≤1:=by rw[ht];split<;>simp
  have hk1:k≤1:=by rw[hk];split<;>simp
  have hT:uscaleT hi mid m2 s=((hi-t)/2^s|||k):=uscaleT_fine heq ht (by rw[←hD];exact hk);have e3:IntKind.u64.wrap ((hi:Int)-(t:Int))=((hi-t:Nat):Int):=by rw[IntKind.wrap_u64];omega
  have e4:IntKind.u64.wrap ((mid:Int)-(m2:Int))=(D:Int):=by rw[IntKind.wrap_u64];omega
  have e5:=div_pow_int (hi-t) s hs;have hA2:(hi-t)/2^s≤hi-t:=Nat.div_le_self _ _;have o1:bits .or .u64 (((hi-t)/2^s:Nat):Int) (k:Int)=(((hi-t)/2^s|||k:Nat):Int):=u64_or_nat _ _ (by omega) (by omega);have t1: ∀[inst:Decidable (mid<m2)],(if @decide _ inst=true then(1:Int)else 0)=(t:Int):=by
   intro inst;by_cases hlt:mid<m2
   ·rw[ht,if_pos hlt,if_pos (decide_eq_true hlt)];rfl
   ·rw[ht,if_neg hlt,if_neg (by rw[decide_eq_false hlt];simp)];rfl
  have t2: ∀[inst:Decidable ((1:Int)<(D:Int))],(@ite Int ((1:Int)<(D:Int)) inst 1 0)=(k:Int):=by
   intro inst;by_cases hlt:1<D
   ·rw[hk,if_pos hlt,if_pos (by omega)];rfl
   ·rw[hk,if_neg hlt,if_neg (by omega)];rfl
  rw[hT];generalize hi/2^s*2^s=B at*
  generalize hi/2^s=A at*
  generalize ((hi-t)/2^s|||k)=C at*
  generalize (hi-t)/2^s=A2 at*
  generalize hi-t=h' at*
  clear hhi hhi2 hmid hm2 hs hT hne hle hA1 heq ht hD hk ht1 hk1 hA2;go_enter Tryz.func321,Tryz.ntmps321;go_wp2_with fail;refine(hA _).mono ?_;rintro e w' ⟨rfl,rfl⟩;go_wp2_with fail;refine(hB _).mono ?_;rintro e w' ⟨rfl,rfl⟩;go_wp2_with fail;refine(fp_bool2 _ _).mono ?_;rintro e w' ⟨rfl,rfl⟩;rw[t1];go_wp2_with fail;go_quiet ((go_at_call 308;exact Calls.quiet_of_same ((fp_bool2 _ _).mono fun _ _ ⟨h1,h2⟩=>⟨h1,h2.symm⟩)));go_wp2_with fail
  all_goals
   go_ret;exact⟨rfl,rfl,Go.below_drewN (Below.refl _ _) _⟩
theorem fp_uscale (x b H L s:Nat) (hx:x<18446744073709551616) (hH:H<18446744073709551616) (hL:L<18446744073709551616) (hs:s<64) (hge:18446744073709551616≤x*H) (w:World) (hb:Blk w b 363 #[.int .u64 (H:Int),.int .u64 (L:Int),.int .i64 (s:Int)]):
  Calls Tryz.prog 321 #[.int .u64 (x:Int),.pointer (some ⟨b,0,none⟩)] w fun e' w'=>e'= .returned (.int .u64 (uscaleN x H L s:Nat))∧w'.heap=w.heap∧Below w.heap.size w w':=by
 have h1:x*H<18446744073709551616*18446744073709551616:=Nat.mul_lt_mul'' hx hH;have h2:x*L<18446744073709551616*18446744073709551616:=Nat.mul_lt_mul'' hx hL;rw[uscale_T];exact fp_uscaleT x b H L s _ _ _ (x*L%18446744073709551616) ((Nat.le_div_iff_mul_le (by omega)).2 (by omega)) ((Nat.div_lt_iff_lt_mul (by omega)).2 h1) (Nat.mod_lt _ (by omega)) ((Nat.div_lt_iff_lt_mul (by omega)).2 h2) hs w hb
  (fun w=>Tryz.bits_Mul64 x H hx hH w) (fun w=>Tryz.bits_Mul64 x L hx hL w)
theorem bitLen_log2 : ∀ (d : Nat), 0 < d → d < 18446744073709551616 → Lib.bitLen d = d.log2 + 1 := by
  intro d
  induction d using Nat.strongRecOn with
  | _ d ih =>
    intro h0 h1
    rw[Lib.bitLen_half d (by omega) (by omega)]
    by_cases h:d<2
    · have : d = 1 := by omega
      subst this;rfl
    · have h2 := Nat.log2_def d
      rw[if_pos (by omega)]at h2
      rw[ih (d/2) (by omega) (by omega) (by omega),h2]
      omega
theorem pow10_rows: ∀r∈Pinned.pow10Rows,9223372036854775808≤r.1∧r.1<18446744073709551616∧r.2<18446744073709551616:=by decide+kernel
theorem pow10_len:Pinned.pow10Rows.length=696:=by decide+kernel
theorem pow10_fits (p:Int) (hp: -345≤p∧p≤310):9223372036854775808≤powHi p∧powHi p<18446744073709551616∧powLo p<18446744073709551616:=by
 have hi:(p+348).toNat<Pinned.pow10Rows.length:=by rw[pow10_len];omega
 have hm:=pow10_rows _ (List.getElem_mem hi);unfold powHi powLo;rw[List.getD_eq_getElem?_getD,List.getElem?_eq_getElem hi];exact hm
theorem fp_parse64T (d B b sh s:Nat) (p l E S:Int) (H L x u:Nat) (hd:d<18446744073709551616) (w:World)
  (hlen:Lib.bitLen d=B) (hp: -345≤p∧p≤310) (hl:log2P p=l)
  (w1:wrap64 (53-(B:Int))=53-(B:Int)) (w2:wrap64 (53-(B:Int)-l)=53-(B:Int)-l) (hE:min 1074 (53-(B:Int)-l)=E) (w3:wrap64 (64-(B:Int))=(sh:Int)) (w4:wrap64 (E-(sh:Int))=E-(sh:Int))
  (hS: -(E-(sh:Int)+l+3)=S) (hEb: -5000≤E-(sh:Int)∧E-(sh:Int)≤5000) (hlb: -5000≤l∧l≤5000)
  (i:Nat) (hi:p=(i:Int)-348) (hi2:i<696) (hg:11<w.heap.size)
  (c0:w.cell? ⟨11,i*2,none⟩=some (.int .u64 (H:Int))) (c1:w.cell? ⟨11,i*2+1,none⟩=some (.int .u64 (L:Int))) (hs:S<64) (hub:u<144115188075855872) (hE1: -2000≤E∧E≤1074) (hsS:S=(s:Int))
  (hx:IntKind.u64.wrap ((d:Int)*2^min sh 64)=(x:Int)) (hu: ∀b w,Blk w b 363 #[.int .u64 (H:Int),.int .u64 (L:Int),.int .i64 (s:Int)]→Calls Tryz.prog 321 #[.int .u64 (x:Int),.pointer (some ⟨b,0,none⟩)] w fun e' w'=>e'= .returned (.int .u64 (u:Int))∧w'.heap=w.heap∧Below w.heap.size w w'):
  Calls Tryz.prog 311 #[.int .u64 (d:Int),.int .i64 p,.int .u64 0] w fun e' w'=>e'= .returned (.tuple #[.float .f64 (packB (pfM u) (-(E-(pfT u:Int)))),rngV (packRng (pfM u) (-(E-(pfT u:Int))))])∧Below w.heap.size w w':=by
 have HL:=Lib.hid hlen;have HLL:=Lib.hid hl;have HS:=Lib.hid hS;have HI:=Lib.hid hi;have HSS:=Lib.hid hsS;have HD:=Lib.hid hd;have HE:=Lib.hid hEb;have HU:=Lib.hid hu;have HUB:=Lib.hid hub;have HE1:=Lib.hid hE1;clear hlen hl hi hS hsS hd hEb hu hub hE1;go_enter Tryz.func311,Tryz.ntmps311;go_wp2_with fail;refine(Tryz.bits_Len64 d _ (by omega) (by have:=HD.out;omega)).mono ?_;rintro e w' ⟨rfl,rfl⟩;rw[Int.toNat_natCast,HL.out];go_wp2_with fail;refine(fp_log2Pow10 p (by omega) _).mono ?_;rintro e w' ⟨rfl,rfl⟩;rw[HLL.out];go_wp2_with fail;have hb0:=Blk.new w' 363 #[.int .u64 0,.int .u64 0,.int .i64 0];have hB0:=(Below.refl w'.heap.size w').alloc (Nat.le_refl _) (.cells #[.int .u64 0,.int .u64 0,.int .i64 0] 363);refine(fp_prescale w'.heap.size (E-(sh:Int)) p l _ _ _ i HI.out hi2 HE.out hlb _ hb0 H L ((hB0.cell hg).trans c0) ((hB0.cell hg).trans c1) (by omega)).mono ?_;rintro e w2 ⟨rfl,hb2,hB2⟩;rw[HS.out,HSS.out]at hb2;have hs64:((64:Int)≤(s:Int))=False:=by have:=HSS.out;simp;omega
 have d2:w2.cell? ⟨w'.heap.size,2,none⟩=some (.int .i64 (s:Int)):=by rw[hb2.cell];rfl
 have HB0:=Lib.hid (hB0.trans hB2);have HB2:=Lib.hid hb2;clear hB0 hB2 hb0 hb2;go_wp2_with fail;refine(HU.out _ _ HB2.out).mono ?_;rintro e w3 ⟨rfl,hh,hb3⟩;have HB3:=Lib.hid hb3;clear hh hb3;go_wp2_with fail;refine(fp_unmin _).mono ?_;rintro e w4 ⟨rfl,rfl⟩;go_wp2_with fail;refine(Tryz.internal_strconv_bool2_int _ _).mono ?_;rintro e w4 ⟨rfl,rfl⟩;have hT: ∀[inst:Decidable ((36028797018963966:Int)≤(u:Int))],(if @decide _ inst=true then(1:Int)else 0)=(pfT u:Int):=by
  intro inst;unfold pfT;by_cases hlt:36028797018963966≤u
  ·rw[if_pos hlt,if_pos (decide_eq_true (by omega))];rfl
  ·rw[if_neg hlt,if_neg (by rw[decide_eq_false (by omega)];simp)];rfl
 have hub:=HUB.out;have hE1:=HE1.out;have ht1:pfT u≤1:=by unfold pfT;split<;>simp
 rw[hT];obtain⟨m,hm⟩: ∃m,m=pfM u:=⟨_,rfl⟩;have hmM:m=roundU (u/2^pfT u|||(u&&&1)):=hm;obtain⟨t,htt⟩: ∃t,t=pfT u:=⟨_,rfl⟩;rw[←htt]at hmM ht1 ⊢
 have HM:=Lib.hid hm;have HTT:=Lib.hid htt;clear hT hm htt;obtain⟨a,ha⟩: ∃a,a=u/2^t:=⟨_,rfl⟩;have ha1:a≤u:=by rw[ha];exact Nat.div_le_self _ _
 have f1:((u:Int)/2^min t 64)=(a:Int):=by rw[ha];exact div_pow_int u t (by omega)
 obtain⟨u2,hu2⟩: ∃u2,u2=(a|||(u&&&1)):=⟨_,rfl⟩;rw[←ha,←hu2]at hmM;have hlt57:u2<144115188075855872:=by
  rw[hu2];exact Nat.or_lt_two_pow (n:=57) (by omega) (by have:=Nat.and_le_left (n:=u) (m:=1);omega)
 have hmb:m<9223372036854775808:=by
  have h2:(u2/4&&&1)≤1:=Nat.and_le_right;rw[hmM,roundU];omega
 have f2:bits .or .u64 (a:Int) (bits .and .u64 (u:Int) 1)=(u2:Int):=by
  rw[show bits .and .u64 (u:Int) 1=((u&&&1:Nat):Int)from u64_and_nat u 1 (by omega) (by omega),u64_or_nat a (u&&&1) (by omega) (by have:=Nat.and_le_left (n:=u) (m:=1);omega),hu2]
 have f3:wrap64 (E-(t:Int))=E-(t:Int):=by unfold wrap64;omega
 have f4:bits .or .u64 0 (m:Int)=(m:Int):=by
  have:=u64_or_nat 0 m (by omega) (by omega);rw[Nat.zero_or]at this;exact this
 have f5:wrap64 (-(E-(t:Int)))= -(E-(t:Int)):=by unfold wrap64;omega
 have HMM:=Lib.hid hmM;have HLT:=Lib.hid hlt57;have HMB:=Lib.hid hmb;have HT1:=Lib.hid ht1;clear hmM hu2 ha hlt57 hmb ha1 hub ht1 hE1;go_wp2_with fail;refine(fp_round u2 (by have:=HLT.out;omega) _).mono ?_;rintro e w5 ⟨rfl,rfl⟩;rw[←HMM.out];go_wp2_with fail;refine(fp_pack64 m (-(E-(t:Int))) HMB.out (by have:=HE1.out;have:=HT1.out;omega) _).mono ?_;rintro e w5 ⟨rfl,rfl⟩;go_wp2_with fail;go_ret2;rw[←HM.out,←HTT.out];exact⟨rfl,HB0.out.trans (HB3.out.mono HB0.out.size)⟩
theorem fp_parse64Z (d B sh:Nat) (p l E S:Int) (H L:Nat) (hd:d<18446744073709551616) (w:World)
  (hlen:Lib.bitLen d=B) (hp: -345≤p∧p≤310) (hl:log2P p=l)
  (w1:wrap64 (53-(B:Int))=53-(B:Int)) (w2:wrap64 (53-(B:Int)-l)=53-(B:Int)-l) (hE:min 1074 (53-(B:Int)-l)=E) (w3:wrap64 (64-(B:Int))=(sh:Int)) (w4:wrap64 (E-(sh:Int))=E-(sh:Int))
  (hS: -(E-(sh:Int)+l+3)=S) (hEb: -5000≤E-(sh:Int)∧E-(sh:Int)≤5000) (hlb: -5000≤l∧l≤5000)
  (i:Nat) (hi:p=(i:Int)-348) (hi2:i<696) (hg:11<w.heap.size)
  (c0:w.cell? ⟨11,i*2,none⟩=some (.int .u64 (H:Int))) (c1:w.cell? ⟨11,i*2+1,none⟩=some (.int .u64 (L:Int))) (hs:64≤S):
  Calls Tryz.prog 311 #[.int .u64 (d:Int),.int .i64 p,.int .u64 0] w fun e' w'=>e'= .returned (.tuple #[.float .f64 0,.nilIface])∧Below w.heap.size w w':=by
 have HL:=Lib.hid hlen;have HLL:=Lib.hid hl;have HS:=Lib.hid hS;have HI:=Lib.hid hi;have HD:=Lib.hid hd;have HE:=Lib.hid hEb;clear hlen hl hi hS hd hEb;go_enter Tryz.func311,Tryz.ntmps311;go_wp2_with fail;refine(Tryz.bits_Len64 d _ (by omega) (by have:=HD.out;omega)).mono ?_;rintro e w' ⟨rfl,rfl⟩;rw[Int.toNat_natCast,HL.out];go_wp2_with fail;refine(fp_log2Pow10 p (by omega) _).mono ?_;rintro e w' ⟨rfl,rfl⟩;rw[HLL.out];go_wp2_with fail;have hb0:=Blk.new w' 363 #[.int .u64 0,.int .u64 0,.int .i64 0];have hB0:=(Below.refl w'.heap.size w').alloc (Nat.le_refl _) (.cells #[.int .u64 0,.int .u64 0,.int .i64 0] 363);refine(fp_prescale w'.heap.size (E-(sh:Int)) p l _ _ _ i HI.out hi2 HE.out hlb _ hb0 H L ((hB0.cell hg).trans c0) ((hB0.cell hg).trans c1) (by omega)).mono ?_;rintro e w2 ⟨rfl,hb2,hB2⟩;rw[HS.out]at hb2;have d2:w2.cell? ⟨w'.heap.size,2,none⟩=some (.int .i64 S):=by rw[hb2.cell];rfl
 have f4:bits .or .u64 0 0=0:=by decide+kernel
 have HB0:=Lib.hid (hB0.trans hB2);clear hB0 hB2 hb0 hb2;go_wp2_with fail;rw[run_frombits];rw[Oper.upon_value];go_wp2_with fail;go_ret2;exact⟨rfl,HB0.out⟩
theorem shl_norm (d:Nat) (h0:0<d) (h:d<18446744073709551616):9223372036854775808≤d*2^(63-d.log2)∧d*2^(63-d.log2)<18446744073709551616:=by
 have h1:d.log2<64:=(Nat.log2_lt (by omega)).2 (by omega);have h2:2^d.log2≤d:=Nat.log2_self_le (by omega);have h3:d<2^(d.log2+1):=Nat.lt_log2_self;have h4:2^d.log2*2^(63-d.log2)=9223372036854775808:=by rw[←Nat.pow_add,show d.log2+(63-d.log2)=63 by omega]
 have h5:2^(d.log2+1)*2^(63-d.log2)=18446744073709551616:=by rw[←Nat.pow_add,show d.log2+1+(63-d.log2)=64 by omega]
 have h6:0<2^(63-d.log2):=Nat.two_pow_pos _;constructor
 ·rw[←h4];exact Nat.mul_le_mul_right _ h2
 ·rw[←h5];exact Nat.mul_lt_mul_of_pos_right h3 h6
theorem log2P_fits (p:Int) (hp: -345≤p∧p≤310): -1200≤log2P p∧log2P p≤1100:=by unfold log2P;omega
theorem uscaleN_lt (x H L s:Nat) (hx:x<18446744073709551616) (hH:H<18446744073709551616) (hs:8≤s):uscaleN x H L s<144115188075855872:=by
 have h1:x*H<18446744073709551616*18446744073709551616:=Nat.mul_lt_mul'' hx hH;have h2:x*H/18446744073709551616<18446744073709551616:=(Nat.div_lt_iff_lt_mul (by omega)).2 h1;have h3: ∀y,y<18446744073709551616→y/2^s<144115188075855872:=by
  intro y hy;have h4:2^8≤2^s:=Nat.pow_le_pow_right (by omega) hs;have h5:y/2^s≤y/2^8:=Nat.div_le_div_left h4 (by omega);omega
 rw[uscale_T,uscaleT];split
 ·exact Nat.or_lt_two_pow (n:=57) (h3 _ h2) (by omega)
 ·refine Nat.or_lt_two_pow (n:=57) (h3 _ (by omega)) ?_;split<;>omega
theorem fp_parse64 (d:Nat) (p:Int) (hd0:0<d) (hd:d<18446744073709551616) (hp: -345≤p∧p≤310) (w:World) (hg:11<w.heap.size)
  (c0:w.cell? ⟨11,(p+348).toNat*2,none⟩=some (.int .u64 (powHi p:Int))) (c1:w.cell? ⟨11,(p+348).toNat*2+1,none⟩=some (.int .u64 (powLo p:Int))):
  Calls Tryz.prog 311 #[.int .u64 (d:Int),.int .i64 p,.int .u64 0] w fun e' w'=>e'= .returned (.tuple #[.float .f64 (pf64 d p),rngV (pf64R d p)])∧Below w.heap.size w w':=by
 have h1:d.log2<64:=(Nat.log2_lt (by omega)).2 (by omega);have hlen:=bitLen_log2 d hd0 hd;have hl:=log2P_fits p hp;have hf:=pow10_fits p hp;have hx:=shl_norm d hd0 hd;have hEd:pfE d p=min 1074 (53-((d.log2+1:Nat):Int)-log2P p):=rfl;have hSd:pfS d p= -(pfE d p-(64-((d.log2+1:Nat):Int))+log2P p+3):=rfl;have hE1: -2000≤pfE d p∧pfE d p≤1074:=by omega
 have hS8:8≤pfS d p:=by omega
 have w1:wrap64 (53-((d.log2+1:Nat):Int))=53-((d.log2+1:Nat):Int):=by unfold wrap64;omega
 have w2:wrap64 (53-((d.log2+1:Nat):Int)-log2P p)=53-((d.log2+1:Nat):Int)-log2P p:=by unfold wrap64;omega
 have w3:wrap64 (64-((d.log2+1:Nat):Int))=((63-d.log2:Nat):Int):=by unfold wrap64;omega
 have w4:wrap64 (pfE d p-((63-d.log2:Nat):Int))=pfE d p-((63-d.log2:Nat):Int):=by unfold wrap64;omega
 by_cases hs:64≤pfS d p
 ·have e1:pf64 d p=0:=by rw[pf64,if_pos hs]
  have e2:pf64R d p=false:=by rw[pf64R,if_pos hs]
  rw[e1,e2];exact fp_parse64Z d (d.log2+1) (63-d.log2) p (log2P p) (pfE d p) (pfS d p) (powHi p) (powLo p) hd w hlen hp rfl w1 w2 hEd.symm w3 w4 (by omega) (by omega) (by omega) (p+348).toNat (by omega) (by omega) hg c0 c1 hs
 ·have e1:pf64 d p=packB (pfM (pfU d p)) (-(pfE d p-(pfT (pfU d p):Int))):=by rw[pf64,if_neg hs]
  have e2:pf64R d p=packRng (pfM (pfU d p)) (-(pfE d p-(pfT (pfU d p):Int))):=by rw[pf64R,if_neg hs]
  rw[e1,e2];have hxw:IntKind.u64.wrap ((d:Int)*2^min (63-d.log2) 64)=((d*2^(63-d.log2):Nat):Int):=mul_pow_int d (63-d.log2) (by omega) hx.2;exact fp_parse64T d (d.log2+1) 0 (63-d.log2) (pfS d p).toNat p (log2P p) (pfE d p) (pfS d p) (powHi p) (powLo p) (d*2^(63-d.log2)) (pfU d p) hd w hlen hp rfl w1 w2 hEd.symm w3 w4 (by omega) (by omega) (by omega) (p+348).toNat (by omega) (by omega) hg c0 c1 (by omega)
   (uscaleN_lt _ _ _ _ hx.2 hf.2.1 (by omega)) hE1 (by omega) hxw (fun b w hb=>fp_uscale _ b _ _ _ hx.2 hf.2.1 hf.2.2 (by omega) (by
    have:=Nat.mul_le_mul hx.1 hf.1;omega) w hb)
end Go.Proofs.YtibcjfjacielbaaGreatDoor
