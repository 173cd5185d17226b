import Derived.Test.YtibcjfjacielbaaGreatDoorP28
import Derived.Test.YtibcjfjacielbaaGreatDoorP38
/- Part of the proof of YtibcjfjacielbaaGreatDoorCardP: TrM. -/
set_option maxRecDepth 100000
set_option maxHeartbeats 4000000
set_option linter.unusedVariables false
set_option linter.unusedSimpArgs false
namespace Go.Proofs.YtibcjfjacielbaaGreatDoor
open Go.RowKit
theorem kept_set {B p i:Nat} {W:World} {t:TypeId} {cs:Array Value} (hb:Blk W p t cs) (hp:B≤p) (ht:t≠24) (u:Value):Kept B W (W.setCell ⟨p,i,none⟩ u):=
 ⟨(Below.refl _ _).setCell (p:=⟨p,i,none⟩) hp u,fun g cs' h=>h.far (by rintro rfl;exact Blk.ne_ h hb ht.symm rfl) u⟩
theorem calls_visit {n:Nat} {fv:Nat} {args:Array Value} {W:World} {R:Ending→World→Prop} (h:Calls Tryz.prog fv args W R):CallsIn Fence.wide n Tryz.prog fv args W R:=callsIn_wide.2 h
theorem depth_visit (p d m:Nat) (v:Value) (W:World) (hd:d≤1099511627776) (hm:m≤1099511627776) (hp:Blk W p 3 #[.int .i64 (m:Int)]):
  Calls Tryz.prog 72 #[.int .i64 (d:Int),v,.pointer (some ⟨p,0,none⟩)] W fun e W'=>e= .returned (.bool true)∧W'=W.setCell ⟨p,0,none⟩ (.int .i64 ((max m d:Nat):Int)):=by
 have c0:=hp.cell 0;have f0:=hp.frozen 0;clear hp;simp at c0;have hmx:max (m:Int) (d:Int)=((max m d:Nat):Int):=by omega
 have HM:=Lib.hid hmx;clear hmx;go_enter Tryz.func72,Tryz.ntmps72;go_wp2_with fail;rw[HM.out];go_ret;exact⟨rfl,rfl⟩
def IntBox (p:Nat) (f:List (Nat×PR)→Nat) (pre:List (Nat×PR)) (W:World):Prop:=Blk W p 3 #[.int .i64 (f pre:Int)]∧f pre≤1099511627776
theorem IntBox.keep {p:Nat} {f:List (Nat×PR)→Nat} (s:List (Nat×PR)) (A B:World) (h:IntBox p f s A) (hb:Below A.heap.size A B):IntBox p f s B:=⟨h.1.below hb h.1.lt,h.2⟩
theorem maxL_one (a:Nat):maxL [a]=a:=by rw[maxL_cons];simp[maxL]
def deepL (pre:List (Nat×PR)):Nat:=maxL (pre.map (·.1))
theorem deepL_snoc (pre:List (Nat×PR)) (x:Nat×PR):deepL (pre++[x])=max (deepL pre) x.1:=by
 unfold deepL;rw[List.map_append,maxL_app,List.map_cons,List.map_nil,maxL_one]
theorem int_set {p:Nat} {W:World} {a b:Int} (h:Blk W p 3 #[.int .i64 a]):Blk (W.setCell ⟨p,0,none⟩ (.int .i64 b)) p 3 #[.int .i64 b]:=by
 have:=h.set_ 0 (.int .i64 b);simpa using this
theorem depth_visits {b p:Nat} {w0:World} (N:Nat) (hp:w0.heap.size≤p):Visits b w0 72 #[.pointer (some ⟨p,0,none⟩)] (IntBox p deepL) (fun _ _=>False) (fun l=>l.length≤N) (fun _=>True):=by
 intro n d pre v r ks W _ _ hj _ _ hd;refine calls_visit ((depth_visit p d _ v W hd hj.2 hj.1).mono ?_);rintro e W' ⟨rfl,rfl⟩;refine .inl ⟨rfl,⟨?_,?_⟩,kept_set hj.1 hp (by decide) _⟩
 ·rw[deepL_snoc];exact int_set hj.1
 ·rw[deepL_snoc];have:=hj.2;show max _ d≤_;omega
theorem count_visit (p m:Nat) (d v:Value) (W:World) (hm:m≤1099511627776) (hp:Blk W p 3 #[.int .i64 (m:Int)]):
  Calls Tryz.prog 73 #[d,v,.pointer (some ⟨p,0,none⟩)] W fun e W'=>e= .returned (.bool true)∧W'=W.setCell ⟨p,0,none⟩ (.int .i64 ((m+1:Nat):Int)):=by
 have c0:=hp.cell 0;have f0:=hp.frozen 0;clear hp;simp at c0;have hmx:(m:Int)+1=((m+1:Nat):Int):=by omega
 have HM:=Lib.hid hmx;clear hmx;go_enter Tryz.func73,Tryz.ntmps73;go_wp2_with fail;rw[HM.out];go_ret;exact⟨rfl,rfl⟩
theorem count_visits {b p:Nat} {w0:World} (N:Nat) (hN:N≤1099511627776) (hp:w0.heap.size≤p):Visits b w0 73 #[.pointer (some ⟨p,0,none⟩)] (IntBox p List.length) (fun _ _=>False) (fun l=>l.length≤N) (fun _=>True):=by
 intro n d pre v r ks W _ _ hj _ hlt hd;refine calls_visit ((count_visit p _ _ v W hj.2 hj.1).mono ?_);rintro e W' ⟨rfl,rfl⟩;refine .inl ⟨rfl,⟨?_,?_⟩,kept_set hj.1 hp (by decide) _⟩
 ·rw[List.length_append];exact int_set hj.1
 ·rw[List.length_append];simp only[List.length_append,List.length_cons,List.length_nil]at hlt;show pre.length+1≤_;omega
theorem walk_nil (d:Int) (fv:Value) (w:World):Calls Tryz.prog 57 #[.nilIface,.int .i64 d,fv] w fun e w'=>e= .returned (.bool true)∧w=w':=by
 go_enter Tryz.func57,Tryz.ntmps57;go_wp2_with fail;go_ret;exact⟨rfl,rfl⟩
theorem walk_root {b:Nat} {w0 W:World} {v:Value} {L:List (Nat×PR)} (h:RootAt b w0 v L) (fv:Nat) (lb:Array Value) (eg: ∀args w,(callFunc fv args).run Tryz.prog w= .ok (.enter fv args) w) (N:Nat) (J:List (Nat×PR)→World→Prop)
  (hJ: ∀s A B,J s A→Below A.heap.size A B→J s B) {R:PR→Prop} (hV:Visits b w0 fv lb J (fun _ _=>False) (fun l=>l.length≤N) R) (hR: ∀x∈L,R x.2) (hW:Below w0.heap.size w0 W) (h0:J [] W) (hN:L.length≤N) (hL:1+L.length≤1099511627776):
  Calls Tryz.prog 57 #[v,.int .i64 1,.func (.func fv) #[] lb] W fun e W'=>e= .returned (.bool true)∧J L W'∧Kept w0.heap.size W W':=by
 rcases h with⟨rfl,rfl⟩|h
 ·refine(walk_nil 1 _ W).mono ?_;rintro e W' ⟨rfl,rfl⟩;exact⟨rfl,h0,Kept.refl _ _⟩
 ·refine(callsIn_wide.1 (tree_walk fv lb eg _ J _ hJ hV h hR 0 [] W hW h0 (fun q hq _=>by have:=hq.length_le;simp only[List.nil_append];omega) hL)).mono ?_;rintro e W' (⟨rfl,hj,hb⟩|⟨_,⟨_,_,_,hf⟩⟩)
  ·exact⟨rfl,by simpa using hj,hb⟩
  ·exact hf.elim
theorem tree_Depth {b:Nat} {w:World} {v:Value} {L:List (Nat×PR)} (h:RootAt b w v L) (hL:1+L.length≤1099511627776):
  Calls Tryz.prog 26 #[.agg #[v]] w (IntPost w (deepL L:Nat)):=by
 have HW:Hid (Calls Tryz.prog 57 #[v,.int .i64 1,.func (.func 72) #[] #[.pointer (some ⟨w.heap.size+1,0,none⟩)]] ((w.alloc (.cells #[v] 26)).alloc (.cells #[.int .i64 0] 3)) fun e W'=>e= .returned (.bool true)∧IntBox (w.heap.size+1) deepL L W'∧Kept w.heap.size ((w.alloc (.cells #[v] 26)).alloc (.cells #[.int .i64 0] 3)) W'):=
  Lib.hid (walk_root h _ _ (enters_of Tryz.func72 (by kernel_rfl) rfl) L.length _ IntBox.keep (depth_visits _ (by omega)) (fun _ _=>trivial) (((Below.refl _ w).alloc (Nat.le_refl _) _).alloc (by simp) _)
   ⟨by have:=Blk.new (w.alloc (.cells #[v] 26)) 3 #[.int .i64 0];simpa [deepL,maxL]using this,by simp[deepL,maxL]⟩ (Nat.le_refl _) hL)
 have hb2:Below w.heap.size w ((w.alloc (.cells #[v] 26)).alloc (.cells #[.int .i64 0] 3)):=((Below.refl _ w).alloc (Nat.le_refl _) _).alloc (by simp) _;have HB2:=Lib.hid hb2;clear hb2;clear h;go_enter Tryz.func26,Tryz.ntmps26;go_wp2_with fail;refine HW.out.mono ?_;rintro e w2 ⟨rfl,⟨hbx,_⟩,hk⟩;have c0:=hbx.cell 0;simp at c0;have HB:=Lib.hid (HB2.out.trans hk.1);clear hbx hk;go_wp2_with fail;go_ret;exact⟨rfl,HB.out⟩
theorem tree_Nodes {b:Nat} {w:World} {v:Value} {L:List (Nat×PR)} (h:RootAt b w v L) (hL:1+L.length≤1099511627776):
  Calls Tryz.prog 27 #[.agg #[v]] w (IntPost w (L.length:Nat)):=by
 have HW:Hid (Calls Tryz.prog 57 #[v,.int .i64 1,.func (.func 73) #[] #[.pointer (some ⟨w.heap.size+1,0,none⟩)]] ((w.alloc (.cells #[v] 26)).alloc (.cells #[.int .i64 0] 3)) fun e W'=>e= .returned (.bool true)∧IntBox (w.heap.size+1) List.length L W'∧Kept w.heap.size ((w.alloc (.cells #[v] 26)).alloc (.cells #[.int .i64 0] 3)) W'):=
  Lib.hid (walk_root h _ _ (enters_of Tryz.func73 (by kernel_rfl) rfl) L.length _ IntBox.keep (count_visits _ (by omega) (by omega)) (fun _ _=>trivial) (((Below.refl _ w).alloc (Nat.le_refl _) _).alloc (by simp) _)
   ⟨by have:=Blk.new (w.alloc (.cells #[v] 26)) 3 #[.int .i64 0];simpa [deepL,maxL]using this,by simp[deepL,maxL]⟩ (Nat.le_refl _) hL)
 have hb2:Below w.heap.size w ((w.alloc (.cells #[v] 26)).alloc (.cells #[.int .i64 0] 3)):=((Below.refl _ w).alloc (Nat.le_refl _) _).alloc (by simp) _;have HB2:=Lib.hid hb2;clear hb2;clear h;go_enter Tryz.func27,Tryz.ntmps27;go_wp2_with fail;refine HW.out.mono ?_;rintro e w2 ⟨rfl,⟨hbx,_⟩,hk⟩;have c0:=hbx.cell 0;simp at c0;have HB:=Lib.hid (HB2.out.trans hk.1);clear hbx hk;go_wp2_with fail;go_ret;exact⟨rfl,HB.out⟩
end Go.Proofs.YtibcjfjacielbaaGreatDoor
