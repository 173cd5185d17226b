import Derived.Test.YtibcjfjacielbaaGreatDoorG38
import Derived.IntWalk
/- Part of the proof of YtibcjfjacielbaaGreatDoorCardG: TgL. -/
set_option linter.unusedVariables false
set_option linter.unusedSimpArgs false
namespace Go.Proofs.YtibcjfjacielbaaGreatDoor
open Go.RowKit
theorem RowsC.src {w : World} {v : Value} {rs : List PR} (h : RowsC w v rs) : ∃ xs : List RV, xs.map (·.r) = rs ∧ RvLs w xs ∧ SrcV 17 w v rs.length (xs.flatMap rvC) := by
 by_cases hne : rs = []
 ·subst hne
  obtain ⟨ao, c, hv, _⟩ := h.2
  refine ⟨[], rfl, (fun x hx => by cases hx), ao, c, hv, rfl, (fun u hu => by cases hu), ?_⟩
  cases ao with
  |none => exact .inl ⟨rfl, rfl⟩
  |some a => exact .inr ⟨a, rfl, fun j u hu => by simp at hu⟩
 ·obtain ⟨g, o, c, xs, hv, _, _, hm, hl, hc⟩ := h.rv hne
  have hlen : xs.length = rs.length := by rw [← hm, List.length_map]
  exact ⟨xs, hm, hl, _, c, hv, by rw [flat_len rvC 17 rvC_len, hlen], rv_one fun x hx => rowLs_one (hl x hx), .inr ⟨_, rfl, hc⟩⟩
theorem info_rowZ : (Tryz.prog.info? 58).map (fun i => (i.zero, i.size, i.bytes)) = some (some (.agg zc), 17, 240) := by kernel_rfl
theorem rows_grown {B n : Nat} {w : World} {e : TypeId} {v : Value} {r : PR} {xs : List RV} {rs : List PR} (hxs : xs.map (·.r) = rs) (hn : n = rs.length) (h1 : r.ms = []) (h2 : r.mls = []) (h3 : r.inc = []) (h4 : r.labels = [])
  (h : w.ownsRow B e 17 v (1 + n) (rvC (rvBare r) ++ xs.flatMap rvC)) (hl : RvLs w xs) : RowsC w v (r :: rs) := by
 have hlen : (rvBare r :: xs).length = 1 + n := by rw [List.length_cons, hn, ← hxs, List.length_map]; omega
 rw [← List.flatMap_cons, ← hlen] at h
 have := RowsC.of_own h (fun x hx => by
  rcases List.mem_cons.1 hx with rfl | hx
  ·exact rowLs_bare h1 h2 h3 h4
  ·exact hl x hx)
 rw [List.map_cons, hxs] at this
 exact this
theorem sign_small : SmallR signR := smallR_bare (by decide) (by decide)
theorem over_small : SmallR overR := smallR_bare (by decide) (by decide)
theorem nk_sign : nk signR = 1 := by decide
theorem nk_over : nk overR = 2 := by decide
theorem sels_len (rs : List PR) : (selsOf rs).length ≤ rs.length := by
 unfold selsOf
 rw [List.length_map]
 exact List.length_filter_le _ _
theorem sels_small {rs : List PR} (h : ∀ r ∈ rs, SmallR r) : ∀ s ∈ selsOf rs, s.ms.length ≤ 1099511627776 := by
 intro s hs
 unfold selsOf at hs
 obtain ⟨r, hr, rfl⟩ := List.mem_map.1 hs
 exact (h r (List.mem_filter.1 hr).1).len.1
theorem info_tree : (Tryz.prog.info? 26).map (·.size) = some 1 := by kernel_rfl
theorem RootAt.one {b : Nat} {w : World} {v : Value} {L : List (Nat × PR)} (h : RootAt b w v L) : v.oneCell' = true := by
 rcases h with ⟨rfl, _⟩ | h
 ·rfl
 ·obtain ⟨t, g, rfl⟩ := h.iface
  rfl
set_option maxRecDepth 100000 in
set_option maxHeartbeats 4000000 in
theorem law_TreeGrows {T : Nat → World → Prop} (hT : NumT (fun _ => True) T) (w : World) (ao bo : Option Addr) (na ca nb cb : Nat) (a b : List PR) (ha : RowsC w (.slice ao na ca) a) (hb : RowsC w (.slice bo nb cb) b)
  (hla : a.length ≤ 1048576) (hlb : b.length ≤ 1048576) (hsa : ∀ r ∈ a, SmallR r) (hsb : ∀ r ∈ b, SmallR r) (hTw : T w.heap.size w) :
  Calls Tryz.prog 5 #[.slice ao na ca, .slice bo nb cb] w (BoolPost w true) := by
 have HT : Hid (∀ W, Below w.heap.size w W → T W.heap.size W) := Lib.hid fun W h => hT.mono (hT.keep hTw h) h.size
 have HAW := Lib.hid (law12_awake hT w hTw)
 have HBA : Hid (∀ W, Below w.heap.size w W → Calls Tryz.prog 21 #[.slice ao na ca] W (BuildPost W a)) := Lib.hid fun W h => tree_Build hT (ha.below h) hla hsa (HT.out W h)
 have HBB : Hid (∀ W, Below w.heap.size w W → Calls Tryz.prog 21 #[.slice bo nb cb] W (BuildPost W b)) := Lib.hid fun W h => tree_Build hT (hb.below h) hlb hsb (HT.out W h)
 have hna : na = a.length := by obtain ⟨_, _, hv, _⟩ := ha.2; injection hv
 have hnb : nb = b.length := by obtain ⟨_, _, hv, _⟩ := hb.2; injection hv
 have hna2 : na ≤ 1048576 := by omega
 have hnb2 : nb ≤ 1048576 := by omega
 obtain ⟨xa, hxa, hla2, hsrca⟩ := ha.src
 obtain ⟨xb, hxb, hlb2, hsrcb⟩ := hb.src
 rw [← hna] at hsrca
 rw [← hnb] at hsrcb
 have HXA := Lib.hid (And.intro hxa (And.intro hla2 hsrca))
 have HXB := Lib.hid (And.intro hxb (And.intro hlb2 hsrcb))
 have HNA := Lib.hid hna
 have HNB := Lib.hid hnb
 have HSA := Lib.hid hsa
 have HSB := Lib.hid hsb
 clear ha hb hla hlb hsa hsb hTw hna hnb hxa hla2 hsrca hxb hlb2 hsrcb
 go_enter Tryz.func5, Tryz.ntmps5
 go_wp2_with fail
 refine HAW.out.mono ?_
 rintro e w1 ⟨rfl, hb1⟩
 have HB1 := Lib.hid hb1
 clear hb1
 have hlong : ((((65536 : Int) < (na : Int)) = True) ∨ ((((65536 : Int) < (na : Int)) = False) ∧ (((65536 : Int) < (nb : Int)) = True))) ∨ ((((65536 : Int) < (na : Int)) = False) ∧ (((65536 : Int) < (nb : Int)) = False) ∧ na ≤ 65536 ∧ nb ≤ 65536) := by
  by_cases h1 : na ≤ 65536
  ·by_cases h2 : nb ≤ 65536
   ·exact .inr ⟨eq_false (by omega), eq_false (by omega), h1, h2⟩
   ·exact .inl (.inr ⟨eq_false (by omega), eq_true (by omega)⟩)
  ·exact .inl (.inl (eq_true (by omega)))
 rcases hlong with (p1 | ⟨p1, p2⟩) | ⟨p1, p2, hn1, hn2⟩
 ·go_wp2_with fail
  go_ret
  exact ⟨rfl, HB1.out⟩
 ·go_wp2_with fail
  go_ret
  exact ⟨rfl, HB1.out⟩
 ·go_wp2_with fail
  (with_reducible refine (HBA.out _ HB1.out).mono ?_)
  rintro e w2 ⟨vx, rfl, hx, hb2⟩
  have ox := hx.one
  have HX2 := Lib.hid (hx.lo (Nat.zero_le _))
  have HB2 := Lib.hid (HB1.out.trans (hb2.mono HB1.out.size))
  have OX : [vx].all (·.oneCell') = true := by simp [ox]
  clear hx hb2
  go_wp2_with (refine wpList_store_blk rfl 26 (.tmp 5) (.tmp 28) rfl w2.heap.size _ rfl rfl (Blk.new _ _ _) info_tree rfl OX ?_; intro W3 hz3 hg3; have hb3 : Below w2.heap.size w2 W3 := below_grow ((Below.refl w2.heap.size w2).alloc (Nat.le_refl _) _) hg3 (by simp) (Nat.le_refl _); have HB23 := Lib.hid hb3; have HZ3 := Lib.hid hz3; have HB3 := Lib.hid (HB2.out.trans (hb3.mono HB2.out.size)); clear hz3 hg3 hb3)
  (with_reducible refine (HBB.out _ HB3.out).mono ?_)
  rintro e w4 ⟨vy, rfl, hy, hb4⟩
  have oy := hy.one
  have OY : [vy].all (·.oneCell') = true := by simp [oy]
  have HY4 := Lib.hid (hy.lo (Nat.zero_le _))
  have HB4 := Lib.hid hb4
  clear hy hb4
  go_upto_region 7 with (refine wpList_store_blk rfl 26 (.tmp 7) (.tmp 33) rfl w4.heap.size _ rfl rfl (Blk.new _ _ _) info_tree rfl OY ?_)
  intro W5 hz5 hg5
  go_upto_region 7 with (fail)
  have hb5 : Below w4.heap.size w4 W5 := below_grow ((Below.refl w4.heap.size w4).alloc (Nat.le_refl _) _) hg5 (by simp) (Nat.le_refl _)
  have hz53 := (HZ3.out.below HB4.out HZ3.out.lt).below hb5 (Nat.lt_of_lt_of_le HZ3.out.lt HB4.out.size)
  have HB5 := Lib.hid (HB3.out.trans ((HB4.out.trans (hb5.mono HB4.out.size)).mono HB3.out.size))
  have HZX := Lib.hid hz53
  have HZY := Lib.hid hz5
  have HX := Lib.hid (((HX2.out.below HB23.out).below HB4.out).below hb5)
  have HY := Lib.hid (HY4.out.below hb5)
  have s3 := HZ3.out.lt
  clear hz5 hg5 hb5 hz53 HX2 HY4 HB2 HB3 HB23 HB4 HZ3 ox oy OX OY
  by_cases hea : buildErr a = 0
  ·by_cases heb : buildErr b = 0
   ·obtain ⟨tx, gx, rfl⟩ := HX.out.some_ hea
    obtain ⟨ty, gy, rfl⟩ := HY.out.some_ heb
    obtain ⟨da, hda⟩ : ∃ n, n = deepOf a := ⟨_, rfl⟩
    obtain ⟨db, hdb⟩ : ∃ n, n = deepOf b := ⟨_, rfl⟩
    have ha1 : 1 ≤ da := by rw [hda]; exact deepOf_pos (shape_parts (build_ok.1 hea).1).1
    have ha2 : da ≤ 128 := by rw [hda]; exact (build_ok.1 hea).2
    have hb1 : 1 ≤ db := by rw [hdb]; exact deepOf_pos (shape_parts (build_ok.1 heb).1).1
    have hb2 : db ≤ 128 := by rw [hdb]; exact (build_ok.1 heb).2
    have HDX : Hid (∀ W, Below W5.heap.size W5 W → Calls Tryz.prog 26 #[.agg #[.iface tx (.pointer (some ⟨gx, 0, none⟩))]] W (IntPost W (da : Nat))) := Lib.hid fun W h => by
     have := tree_Depth (HX.out.below h) (by rw [len_tree hea, ← HNA.out]; omega)
     rwa [deepL_tree hea, ← hda] at this
    have HDY : Hid (∀ W, Below W5.heap.size W5 W → Calls Tryz.prog 26 #[.agg #[.iface ty (.pointer (some ⟨gy, 0, none⟩))]] W (IntPost W (db : Nat))) := Lib.hid fun W h => by
     have := tree_Depth (HY.out.below h) (by rw [len_tree heb, ← HNB.out]; omega)
     rwa [deepL_tree heb, ← hdb] at this
    have HNX : Hid (∀ W, Below W5.heap.size W5 W → Calls Tryz.prog 27 #[.agg #[.iface tx (.pointer (some ⟨gx, 0, none⟩))]] W (IntPost W (na : Nat))) := Lib.hid fun W h => by
     have := tree_Nodes (HX.out.below h) (by rw [len_tree hea, ← HNA.out]; omega)
     rwa [len_tree hea, ← HNA.out] at this
    have HNY : Hid (∀ W, Below W5.heap.size W5 W → Calls Tryz.prog 27 #[.agg #[.iface ty (.pointer (some ⟨gy, 0, none⟩))]] W (IntPost W (nb : Nat))) := Lib.hid fun W h => by
     have := tree_Nodes (HY.out.below h) (by rw [len_tree heb, ← HNB.out]; omega)
     rwa [len_tree heb, ← HNB.out] at this
    have HSX : Hid (∀ W, Below W5.heap.size W5 W → Calls Tryz.prog 16 #[.agg #[.iface tx (.pointer (some ⟨gx, 0, none⟩))]] W (SelsPost W (treeOf a))) := Lib.hid fun W h => tree_Selectors (HX.out.below h) (by rw [len_tree hea, ← HNA.out]; omega) fun x hx => (HSA.out _ (mem_tree hea hx)).len
    have HSY : Hid (∀ W, Below W5.heap.size W5 W → Calls Tryz.prog 16 #[.agg #[.iface ty (.pointer (some ⟨gy, 0, none⟩))]] W (SelsPost W (treeOf b))) := Lib.hid fun W h => tree_Selectors (HY.out.below h) (by rw [len_tree heb, ← HNB.out]; omega) fun x hx => (HSB.out _ (mem_tree heb hx)).len
    have HDA := Lib.hid hda
    have HDB := Lib.hid hdb
    have HEA := Lib.hid hea
    have HEB := Lib.hid heb
    have cx : W5.drew.cell? ⟨w2.heap.size, 0, none⟩ = some (.iface tx (.pointer (some ⟨gx, 0, none⟩))) := HZX.out.cell 0
    have cy : W5.drew.cell? ⟨w4.heap.size, 0, none⟩ = some (.iface ty (.pointer (some ⟨gy, 0, none⟩))) := HZY.out.cell 0
    have lx := HZX.out.lt
    have ly := HZY.out.lt
    rw [hea, heb]
    clear hda hdb hea heb
    go_upto_region 9 with (fail)
    go_region_held3 (fun W => W.cell? ⟨w2.heap.size, 0, none⟩ = some (.iface tx (.pointer (some ⟨gx, 0, none⟩))) ∧ W.cell? ⟨w4.heap.size, 0, none⟩ = some (.iface ty (.pointer (some ⟨gy, 0, none⟩)))) (first | go_keep) (first | (go_at_call 26; (with_reducible refine (HDX.out _ (Below.refl _ W5).drew).mono ?_); rintro e W6 ⟨rfl, hb6⟩; have d1 : W6.cell? ⟨w2.heap.size, 0, none⟩ = some (.iface tx (.pointer (some ⟨gx, 0, none⟩))) := (hb6.cell (p := ⟨w2.heap.size, 0, none⟩) lx).trans (HZX.out.cell 0); have d2 : W6.cell? ⟨w4.heap.size, 0, none⟩ = some (.iface ty (.pointer (some ⟨gy, 0, none⟩))) := (hb6.cell (p := ⟨w4.heap.size, 0, none⟩) ly).trans (HZY.out.cell 0); have HB6 : Hid (Below W5.heap.size W5 W6) := Lib.hid ((Below.refl _ W5).drew.trans hb6); clear hb6) | (go_at_call 26; (with_reducible refine (HDY.out _ HB6.out).mono ?_); rintro e W7 ⟨rfl, hb7⟩; have HB7 := Lib.hid (HB6.out.trans (hb7.mono HB6.out.size)); have e1 : W7.cell? ⟨w2.heap.size, 0, none⟩ = some (.iface tx (.pointer (some ⟨gx, 0, none⟩))) := (HB7.out.cell (p := ⟨w2.heap.size, 0, none⟩) lx).trans (HZX.out.cell 0); have e2 : W7.cell? ⟨w4.heap.size, 0, none⟩ = some (.iface ty (.pointer (some ⟨gy, 0, none⟩))) := (HB7.out.cell (p := ⟨w4.heap.size, 0, none⟩) ly).trans (HZY.out.cell 0); clear hb7))
    clear cx cy d1 d2
    have q1 : ((da : Int) < 1) = False := eq_false (by omega)
    have q2 : ((128 : Int) < (da : Int)) = False := eq_false (by omega)
    have q3 : ((db : Int) < 1) = False := eq_false (by omega)
    have q4 : ((128 : Int) < (db : Int)) = False := eq_false (by omega)
    go_upto_region 12 with (fail)
    have HBW7 := Lib.hid (HB5.out.trans (HB7.out.mono HB5.out.size))
    have HOWN8 : Hid ((W7.alloc (.cells #[.int .i64 6, .int .i64 1, .string ⟨#[45]⟩, .string ⟨#[]⟩, .slice none 0 0, .string ⟨#[]⟩, .string ⟨#[]⟩, .string ⟨#[]⟩, .string ⟨#[]⟩, .bool false, .bool false, .bool false, .slice none 0 0, .int .i64 0, .slice none 0 0, .bool false, .slice none 0 0] 58)).ownsRow W7.heap.size 58 17 (.slice (some ⟨W7.heap.size, 0, none⟩) 1 1) 1 (rvC (rvBare signR))) := Lib.hid (World.ownsRow_lit (base := W7.heap.size) (e := 58) (size := 17) W7 #[.int .i64 6, .int .i64 1, .string ⟨#[45]⟩, .string ⟨#[]⟩, .slice none 0 0, .string ⟨#[]⟩, .string ⟨#[]⟩, .string ⟨#[]⟩, .string ⟨#[]⟩, .bool false, .bool false, .bool false, .slice none 0 0, .int .i64 0, .slice none 0 0, .bool false, .slice none 0 0] 1 (Nat.le_refl _) (by decide) (by rfl))
    have HSRC8 : Hid (SrcV 17 (W7.alloc (.cells #[.int .i64 6, .int .i64 1, .string ⟨#[45]⟩, .string ⟨#[]⟩, .slice none 0 0, .string ⟨#[]⟩, .string ⟨#[]⟩, .string ⟨#[]⟩, .string ⟨#[]⟩, .bool false, .bool false, .bool false, .slice none 0 0, .int .i64 0, .slice none 0 0, .bool false, .slice none 0 0] 58)) (.slice ao na ca) na (xa.flatMap rvC)) := Lib.hid ((HXA.out.2.2.below (HBW7.out)).below ((Below.refl _ W7).alloc (Nat.le_refl _) _))
    have HF8 : Hid (∀ v W, W.ownsRow W7.heap.size 58 17 v (1 + na) (rvC (rvBare signR) ++ xa.flatMap rvC) → (W7.alloc (.cells #[.int .i64 6, .int .i64 1, .string ⟨#[45]⟩, .string ⟨#[]⟩, .slice none 0 0, .string ⟨#[]⟩, .string ⟨#[]⟩, .string ⟨#[]⟩, .string ⟨#[]⟩, .bool false, .bool false, .bool false, .slice none 0 0, .int .i64 0, .slice none 0 0, .bool false, .slice none 0 0] 58)).grownBy W (some W7.heap.size) → Calls Tryz.prog 21 #[v] W (BuildPost W (signR :: a)) ∧ Below W7.heap.size W7 W) := Lib.hid fun v W ho hg => by
     have hb : Below W7.heap.size W7 W := ((Below.refl _ W7).alloc (Nat.le_refl _) _).grown hg (by simp) (fun k hk => by injection hk with hk; omega)
     have hr := rows_grown HXA.out.1 HNA.out rfl rfl rfl rfl ho ((HXA.out.2.1.below HBW7.out).below hb)
     refine ⟨tree_Build hT hr (by rw [List.length_cons, ← HNA.out]; omega) ?_ (HT.out W (HBW7.out.trans (hb.mono HBW7.out.size))), hb⟩
     intro r hr
     rcases List.mem_cons.1 hr with rfl | hr
     ·exact sign_small
     ·exact HSA.out r hr
    go_upto_if 68 with (first | (at_builtin; refine wpList_append_srcV rfl (.tmp 61) (.tmp 62) 39 rfl W7.heap.size 58 _ 17 240 info_rowZ Tryz.underlying39 rfl (by decide) _ 1 _ rfl HOWN8.out _ na (xa.flatMap rvC) rfl HSRC8.out (by unfold maxLen; omega) (by omega) (by simp) ?_; intro v8 W8 ho8 hg8; obtain ⟨a8, n8, c8, hv8⟩ := own_sl ho8; subst hv8; have HC8 := Lib.hid (HF8.out _ _ ho8 hg8); clear ho8 hg8) | (go_at_call 21; (with_reducible refine HC8.out.1.mono ?_); rintro e W9 ⟨vs, rfl, hs, hb9⟩; have OS : [vs].all (·.oneCell') = true := (by simp [hs.one]); have HS9 := Lib.hid (hs.lo (Nat.zero_le _)); have HB9 := Lib.hid hb9; clear hs hb9) | (refine wpList_store_blk rfl 26 (.tmp 11) (.tmp 65) rfl W9.heap.size _ rfl rfl (Blk.new _ _ _) info_tree rfl OS ?_; intro W10 hz10 hg10; have hb10 : Below W9.heap.size W9 W10 := below_grow ((Below.refl W9.heap.size W9).alloc (Nat.le_refl _) _) hg10 (by simp) (Nat.le_refl _); have HZS := Lib.hid hz10; have HB10 := Lib.hid hb10; clear hz10 hg10 hb10))
    have HB710 : Hid (Below W7.heap.size W7 W10) := Lib.hid ((HC8.out.2.trans (HB9.out.mono HC8.out.2.size)).trans (HB10.out.mono (Nat.le_trans HC8.out.2.size HB9.out.size)))
    have HBX10 := Lib.hid (HB7.out.trans (HB710.out.mono HB7.out.size))
    have HBW10 := Lib.hid (HBW7.out.trans (HB710.out.mono HBW7.out.size))
    have HS := Lib.hid (HS9.out.below HB10.out)
    have HZX10 := Lib.hid (HZX.out.below HBX10.out lx)
    have HZY10 := Lib.hid (HZY.out.below HBX10.out ly)
    have lx10 := HZX10.out.lt
    have ly10 := HZY10.out.lt
    have ls := HZS.out.lt
    clear e1 e2 HC8 HB9 HB10 HS9 OS
    obtain ⟨ns, hns⟩ : ∃ n, n = buildErr (signR :: a) := ⟨_, rfl⟩
    rw [← hns]
    have HNS0 := Lib.hid hns
    clear hns
    go_cut [] from 67 to 100 (fun wx => Hid (Below W10.heap.size W10 wx))
    case first =>
     by_cases h128 : da = 128
     ·subst h128
      have he3 : buildErr (signR :: a) = 3 := build_deep (shape_one sign_sound (by decide) nk_sign (build_ok.1 HEA.out).1) (by rw [deepOf_one nk_sign (shape_parts (build_ok.1 HEA.out).1).1, ← HDA.out]; omega)
      obtain rfl := HS.out.nil_ (by rw [he3]; omega)
      obtain rfl : ns = 3 := HNS0.out.trans he3
      have c0 : W10.cell? ⟨W9.heap.size, 0, none⟩ = some .nilIface := HZS.out.cell 0
      clear he3
      go_wp2_with fail
      go_meet
      exact Lib.hid (Below.refl _ _)
     ·have he0 : buildErr (signR :: a) = 0 := build_ok.2 ⟨shape_one sign_sound (by decide) nk_sign (build_ok.1 HEA.out).1, by rw [deepOf_one nk_sign (shape_parts (build_ok.1 HEA.out).1).1, ← HDA.out]; omega⟩
      obtain ⟨ts, gs, rfl⟩ := HS.out.some_ he0
      have HDS : Hid (∀ W, Below W10.heap.size W10 W → Calls Tryz.prog 26 #[.agg #[.iface ts (.pointer (some ⟨gs, 0, none⟩))]] W (IntPost W ((da : Int) + 1))) := Lib.hid fun W h => by
       have := tree_Depth (HS.out.below h) (by rw [len_tree he0, List.length_cons, ← HNA.out]; omega)
       rw [deepL_tree he0, deepOf_one nk_sign (shape_parts (build_ok.1 HEA.out).1).1, ← HDA.out] at this
       exact this
      have HNS : Hid (∀ W, Below W10.heap.size W10 W → Calls Tryz.prog 27 #[.agg #[.iface ts (.pointer (some ⟨gs, 0, none⟩))]] W (IntPost W ((na : Int) + 1))) := Lib.hid fun W h => by
       have := tree_Nodes (HS.out.below h) (by rw [len_tree he0, List.length_cons, ← HNA.out]; omega)
       rw [len_tree he0, List.length_cons, ← HNA.out] at this
       exact this
      have HSS : Hid (∀ W, Below W10.heap.size W10 W → Calls Tryz.prog 16 #[.agg #[.iface ts (.pointer (some ⟨gs, 0, none⟩))]] W (SelsPost W (treeOf (signR :: a)))) := Lib.hid fun W h => tree_Selectors (HS.out.below h) (by rw [len_tree he0, List.length_cons, ← HNA.out]; omega) fun x hx => by
       rcases List.mem_cons.1 (mem_tree he0 hx) with e | e
       ·rw [e]; exact sign_small.len
       ·exact (HSA.out _ e).len
      have HSAME : Hid (∀ W l1 l2, SelS W l1 (selsOf ((treeOf (signR :: a)).map (·.2))) → SelS W l2 (selsOf ((treeOf a).map (·.2))) → Calls Tryz.prog 28 #[l1, l2] W (BoolPost W true)) := Lib.hid fun W l1 l2 h1 h2 => by
       rw [rows_tree he0, selsOf_skip (by decide)] at h1
       rw [rows_tree HEA.out] at h2
       exact law12_sameSelectors_eq h1 h2 (by have := sels_len a; rw [← HNA.out] at this; omega) (sels_small HSA.out)
      obtain rfl : ns = 0 := HNS0.out.trans he0
      have q5 : ((da : Int) = 128) = False := eq_false (by omega)
      have q6 : ((da : Int) == 128) = false := by rw [beq_eq_false_iff_ne]; omega
      have w1 : IntKind.i64.wrap ((da : Int) + 1) = (da : Int) + 1 := IntWalk.i64_in _ (by omega)
      have w2' : IntKind.i64.wrap ((na : Int) + 1) = (na : Int) + 1 := IntWalk.i64_in _ (by omega)
      have b1 : W10.drew.cell? ⟨w2.heap.size, 0, none⟩ = some (.iface tx (.pointer (some ⟨gx, 0, none⟩))) := HZX10.out.cell 0
      have b2 : W10.drew.cell? ⟨W9.heap.size, 0, none⟩ = some (.iface ts (.pointer (some ⟨gs, 0, none⟩))) := HZS.out.cell 0
      clear he0 h128
      go_upto_region 16 with (fail)
      go_region_held3 (fun W => W.cell? ⟨w2.heap.size, 0, none⟩ = some (.iface tx (.pointer (some ⟨gx, 0, none⟩))) ∧ W.cell? ⟨W9.heap.size, 0, none⟩ = some (.iface ts (.pointer (some ⟨gs, 0, none⟩)))) (first | go_keep) (first | (go_at_call 26; (with_reducible refine (HDS.out _ (Below.refl _ W10).drew).mono ?_); rintro e U1 ⟨rfl, hu⟩; have HU1 : Hid (Below W10.heap.size W10 U1) := Lib.hid ((Below.refl _ W10).drew.trans hu); have d1 : U1.cell? ⟨w2.heap.size, 0, none⟩ = some (.iface tx (.pointer (some ⟨gx, 0, none⟩))) := (HU1.out.cell (p := ⟨w2.heap.size, 0, none⟩) lx10).trans (HZX10.out.cell 0); have d2 : U1.cell? ⟨W9.heap.size, 0, none⟩ = some (.iface ts (.pointer (some ⟨gs, 0, none⟩))) := (HU1.out.cell (p := ⟨W9.heap.size, 0, none⟩) ls).trans (HZS.out.cell 0); clear hu) | (go_at_call 27; (with_reducible refine (HNS.out _ HU1.out).mono ?_); rintro e U2 ⟨rfl, hu⟩; have HU2 := Lib.hid (HU1.out.trans (hu.mono HU1.out.size)); have f1 : U2.cell? ⟨w2.heap.size, 0, none⟩ = some (.iface tx (.pointer (some ⟨gx, 0, none⟩))) := (HU2.out.cell (p := ⟨w2.heap.size, 0, none⟩) lx10).trans (HZX10.out.cell 0); have f2 : U2.cell? ⟨W9.heap.size, 0, none⟩ = some (.iface ts (.pointer (some ⟨gs, 0, none⟩))) := (HU2.out.cell (p := ⟨W9.heap.size, 0, none⟩) ls).trans (HZS.out.cell 0); clear hu) | (go_at_call 27; (with_reducible refine (HNX.out _ (HBX10.out.trans (HU2.out.mono HBX10.out.size))).mono ?_); rintro e U3 ⟨rfl, hu⟩; have HU3 := Lib.hid (HU2.out.trans (hu.mono HU2.out.size)); have g1 : U3.cell? ⟨w2.heap.size, 0, none⟩ = some (.iface tx (.pointer (some ⟨gx, 0, none⟩))) := (HU3.out.cell (p := ⟨w2.heap.size, 0, none⟩) lx10).trans (HZX10.out.cell 0); have g2 : U3.cell? ⟨W9.heap.size, 0, none⟩ = some (.iface ts (.pointer (some ⟨gs, 0, none⟩))) := (HU3.out.cell (p := ⟨W9.heap.size, 0, none⟩) ls).trans (HZS.out.cell 0); clear hu) | (go_at_call 16; (with_reducible refine (HSS.out _ HU3.out).mono ?_); intro e U4 hp; obtain ⟨l4, rfl, hl4, hu⟩ := hp.sels; have HL4 := Lib.hid hl4; have HU4 := Lib.hid (HU3.out.trans (hu.mono HU3.out.size)); have i1 : U4.cell? ⟨w2.heap.size, 0, none⟩ = some (.iface tx (.pointer (some ⟨gx, 0, none⟩))) := (HU4.out.cell (p := ⟨w2.heap.size, 0, none⟩) lx10).trans (HZX10.out.cell 0); have i2 : U4.cell? ⟨W9.heap.size, 0, none⟩ = some (.iface ts (.pointer (some ⟨gs, 0, none⟩))) := (HU4.out.cell (p := ⟨W9.heap.size, 0, none⟩) ls).trans (HZS.out.cell 0); clear hu hl4 hp) | (go_at_call 16; (with_reducible refine (HSX.out _ (HBX10.out.trans (HU4.out.mono HBX10.out.size))).mono ?_); intro e U5 hp; obtain ⟨l5, rfl, hl5, hu⟩ := hp.sels; have HL5 := Lib.hid hl5; have HL45 := Lib.hid (HL4.out.below hu); have HU5 := Lib.hid (HU4.out.trans (hu.mono HU4.out.size)); have j1 : U5.cell? ⟨w2.heap.size, 0, none⟩ = some (.iface tx (.pointer (some ⟨gx, 0, none⟩))) := (HU5.out.cell (p := ⟨w2.heap.size, 0, none⟩) lx10).trans (HZX10.out.cell 0); have j2 : U5.cell? ⟨W9.heap.size, 0, none⟩ = some (.iface ts (.pointer (some ⟨gs, 0, none⟩))) := (HU5.out.cell (p := ⟨W9.heap.size, 0, none⟩) ls).trans (HZS.out.cell 0); clear hu hl5 hp) | (go_at_call 28; (with_reducible refine (HSAME.out _ _ _ HL45.out HL5.out).mono ?_); rintro e U6 ⟨rfl, hu⟩; have HU6 := Lib.hid (HU5.out.trans (hu.mono HU5.out.size)); have k1 : U6.cell? ⟨w2.heap.size, 0, none⟩ = some (.iface tx (.pointer (some ⟨gx, 0, none⟩))) := (HU6.out.cell (p := ⟨w2.heap.size, 0, none⟩) lx10).trans (HZX10.out.cell 0); have k2 : U6.cell? ⟨W9.heap.size, 0, none⟩ = some (.iface ts (.pointer (some ⟨gs, 0, none⟩))) := (HU6.out.cell (p := ⟨W9.heap.size, 0, none⟩) ls).trans (HZS.out.cell 0); clear hu))
      clear w1 w2' b1 b2
      go_wp2_with fail
      go_meet
      exact HU6
    case rest =>
     have HBXc := Lib.hid (HBX10.out.trans (hcut.out.mono HBX10.out.size))
     have HBWc := Lib.hid (HBW10.out.trans (hcut.out.mono HBW10.out.size))
     have hal : Below wc.heap.size wc (wc.alloc (.cells #[.int .i64 7, .int .i64 2, .string ⟨#[117, 110, 108, 101, 115, 115]⟩, .string ⟨#[]⟩, .slice none 0 0, .string ⟨#[]⟩, .string ⟨#[]⟩, .string ⟨#[]⟩, .string ⟨#[]⟩, .bool false, .bool false, .bool false, .slice none 0 0, .int .i64 0, .slice none 0 0, .bool false, .slice none 0 0] 58)) := (Below.refl _ wc).alloc (Nat.le_refl _) _
     have HOWN2 : Hid ((wc.alloc (.cells #[.int .i64 7, .int .i64 2, .string ⟨#[117, 110, 108, 101, 115, 115]⟩, .string ⟨#[]⟩, .slice none 0 0, .string ⟨#[]⟩, .string ⟨#[]⟩, .string ⟨#[]⟩, .string ⟨#[]⟩, .bool false, .bool false, .bool false, .slice none 0 0, .int .i64 0, .slice none 0 0, .bool false, .slice none 0 0] 58)).ownsRow wc.heap.size 58 17 (.slice (some ⟨wc.heap.size, 0, none⟩) 1 1) 1 (rvC (rvBare overR))) := Lib.hid (World.ownsRow_lit (base := wc.heap.size) (e := 58) (size := 17) wc #[.int .i64 7, .int .i64 2, .string ⟨#[117, 110, 108, 101, 115, 115]⟩, .string ⟨#[]⟩, .slice none 0 0, .string ⟨#[]⟩, .string ⟨#[]⟩, .string ⟨#[]⟩, .string ⟨#[]⟩, .bool false, .bool false, .bool false, .slice none 0 0, .int .i64 0, .slice none 0 0, .bool false, .slice none 0 0] 1 (Nat.le_refl _) (by decide) (by rfl))
     have HSRC2 : Hid (SrcV 17 (wc.alloc (.cells #[.int .i64 7, .int .i64 2, .string ⟨#[117, 110, 108, 101, 115, 115]⟩, .string ⟨#[]⟩, .slice none 0 0, .string ⟨#[]⟩, .string ⟨#[]⟩, .string ⟨#[]⟩, .string ⟨#[]⟩, .bool false, .bool false, .bool false, .slice none 0 0, .int .i64 0, .slice none 0 0, .bool false, .slice none 0 0] 58)) (.slice ao na ca) na (xa.flatMap rvC)) := Lib.hid ((HXA.out.2.2.below HBWc.out).below hal)
     have HF2 : Hid (∀ W, (wc.alloc (.cells #[.int .i64 7, .int .i64 2, .string ⟨#[117, 110, 108, 101, 115, 115]⟩, .string ⟨#[]⟩, .slice none 0 0, .string ⟨#[]⟩, .string ⟨#[]⟩, .string ⟨#[]⟩, .string ⟨#[]⟩, .bool false, .bool false, .bool false, .slice none 0 0, .int .i64 0, .slice none 0 0, .bool false, .slice none 0 0] 58)).grownBy W (some wc.heap.size) → Below wc.heap.size wc W ∧ SrcV 17 W (.slice bo nb cb) nb (xb.flatMap rvC)) := Lib.hid fun W hg => by
      have hb : Below wc.heap.size wc W := hal.grown hg (by simp) (fun k hk => by injection hk with hk; omega)
      exact ⟨hb, (HXB.out.2.2.below HBWc.out).below hb⟩
     have HF3 : Hid (∀ v1 W1 v W, Below wc.heap.size wc W1 → W1.ownsRow wc.heap.size 58 17 v1 (1 + na) (rvC (rvBare overR) ++ xa.flatMap rvC) → W.ownsRow wc.heap.size 58 17 v (1 + na + nb) (rvC (rvBare overR) ++ xa.flatMap rvC ++ xb.flatMap rvC) → W1.grownBy W v1.ownBlock → Calls Tryz.prog 21 #[v] W (BuildPost W (overR :: (a ++ b))) ∧ Below wc.heap.size wc W) := Lib.hid fun v1 W1 v W hb1 ho1 ho hg => by
      have hb : Below wc.heap.size wc W := hb1.grown hg hb1.size (fun k hk => (ho1.lt k hk).1)
      have hbw := HBWc.out.trans (hb.mono HBWc.out.size)
      rw [Nat.add_assoc, List.append_assoc, ← List.flatMap_append] at ho
      have hr := rows_grown (rs := a ++ b) (by rw [List.map_append, HXA.out.1, HXB.out.1]) (by rw [List.length_append, ← HNA.out, ← HNB.out]) rfl rfl rfl rfl ho ((HXA.out.2.1.below hbw).app (HXB.out.2.1.below hbw))
      refine ⟨tree_Build hT hr (by rw [List.length_cons, List.length_append, ← HNA.out, ← HNB.out]; omega) ?_ (HT.out W hbw), hb⟩
      intro r hr
      rcases List.mem_cons.1 hr with rfl | hr
      ·exact over_small
      ·exact (List.mem_append.1 hr).elim (HSA.out r) (HSB.out r)
     clear hal
     go_upto_if 115 with (first | (at_builtin; refine wpList_append_srcV rfl (.tmp 102) (.tmp 103) 39 rfl wc.heap.size 58 _ 17 240 info_rowZ Tryz.underlying39 rfl (by decide) _ 1 _ rfl HOWN2.out _ na (xa.flatMap rvC) rfl HSRC2.out (by unfold maxLen; omega) (by omega) (by simp) ?_; intro v11 W11 ho11 hg11; obtain ⟨a11, n11, c11, hv11⟩ := own_sl ho11; subst hv11; have HO11 := Lib.hid ho11; have HC11 := Lib.hid (HF2.out _ hg11); clear ho11 hg11) | (at_builtin; refine wpList_append_srcV rfl (.tmp 104) (.tmp 105) 39 rfl wc.heap.size 58 _ 17 240 info_rowZ Tryz.underlying39 rfl (by decide) _ (1 + na) _ rfl HO11.out _ nb (xb.flatMap rvC) rfl HC11.out.2 (by unfold maxLen; omega) (by omega) HC11.out.1.size ?_; intro v12 W12 ho12 hg12; have HC12 := Lib.hid (HF3.out _ _ _ _ HC11.out.1 HO11.out ho12 hg12); obtain ⟨a12, n12, c12, hv12⟩ := own_sl ho12; subst hv12; clear ho12 hg12) | (go_at_call 21; (with_reducible refine HC12.out.1.mono ?_); rintro e W13 ⟨vw, rfl, hw, hb13⟩; have OW : [vw].all (·.oneCell') = true := (by simp [hw.one]); have HW13 := Lib.hid (hw.lo (Nat.zero_le _)); have HB13 := Lib.hid hb13; clear hw hb13) | (refine wpList_store_blk rfl 26 (.tmp 13) (.tmp 110) rfl W13.heap.size _ rfl rfl (Blk.new _ _ _) info_tree rfl OW ?_; intro W14 hz14 hg14; have hb14 : Below W13.heap.size W13 W14 := below_grow ((Below.refl W13.heap.size W13).alloc (Nat.le_refl _) _) hg14 (by simp) (Nat.le_refl _); have HZW0 := Lib.hid hz14; have HB14 := Lib.hid hb14; clear hz14 hg14 hb14))
     have HBc14 : Hid (Below wc.heap.size wc W14) := Lib.hid ((HC12.out.2.trans (HB13.out.mono HC12.out.2.size)).trans (HB14.out.mono (Nat.le_trans HC12.out.2.size HB13.out.size)))
     have HBX14 := Lib.hid (HBXc.out.trans (HBc14.out.mono HBXc.out.size))
     have HBW14 := Lib.hid (HBWc.out.trans (HBc14.out.mono HBWc.out.size))
     have HW := Lib.hid (HW13.out.below HB14.out)
     have HZXy := Lib.hid (HZX.out.below HBX14.out lx)
     have HZYy := Lib.hid (HZY.out.below HBX14.out ly)
     have lxy := HZXy.out.lt
     have lyy := HZYy.out.lt
     have lww := HZW0.out.lt
     clear HC11 HC12 HO11 HB13 HB14 HW13 OW HOWN2 HSRC2 HF2 HF3
     obtain ⟨mx, hmx⟩ : ∃ m, m = max da db := ⟨_, rfl⟩
     have m1 : max (da : Int) (db : Int) = (mx : Int) := by omega
     have hmb : mx ≤ 128 := by omega
     have HMX := Lib.hid hmx
     clear hmx
     obtain ⟨nw, hnw⟩ : ∃ n, n = buildErr (overR :: (a ++ b)) := ⟨_, rfl⟩
     rw [← hnw]
     have HNW0 := Lib.hid hnw
     clear hnw
     have hsh2 : shapeB (overR :: (a ++ b)) = true := shape_two over_sound (by decide) nk_over (build_ok.1 HEA.out).1 (build_ok.1 HEB.out).1
     have hdp2 : deepOf (overR :: (a ++ b)) = mx + 1 := by rw [deepOf_two nk_over (shape_parts (build_ok.1 HEA.out).1).1 (shape_parts (build_ok.1 HEB.out).1).1, ← HDA.out, ← HDB.out, ← HMX.out]
     by_cases h2 : mx = 128
     ·obtain rfl : nw = 3 := HNW0.out.trans (build_deep hsh2 (by omega))
      have p3 : ((mx : Int) = 128) = True := eq_true (by omega)
      have p4 : ((mx : Int) == 128) = true := by rw [beq_iff_eq]; omega
      clear hsh2 hdp2 h2
      go_wp2_with fail
      go_ret
      exact ⟨rfl, HBW14.out⟩
     ·have he0 : buildErr (overR :: (a ++ b)) = 0 := build_ok.2 ⟨hsh2, by omega⟩
      obtain rfl : nw = 0 := HNW0.out.trans he0
      obtain ⟨tw, gw, rfl⟩ := HW.out.some_ he0
      have HZW := HZW0
      have hlenw : (overR :: (a ++ b)).length = na + nb + 1 := by rw [List.length_cons, List.length_append, ← HNA.out, ← HNB.out]
      have HDW : Hid (∀ W, Below W14.heap.size W14 W → Calls Tryz.prog 26 #[.agg #[.iface tw (.pointer (some ⟨gw, 0, none⟩))]] W (IntPost W ((mx : Int) + 1))) := Lib.hid fun W h => by
       have := tree_Depth (HW.out.below h) (by rw [len_tree he0, hlenw]; omega)
       rw [deepL_tree he0, hdp2] at this
       exact this
      have HNW : Hid (∀ W, Below W14.heap.size W14 W → Calls Tryz.prog 27 #[.agg #[.iface tw (.pointer (some ⟨gw, 0, none⟩))]] W (IntPost W ((na : Int) + (nb : Int) + 1))) := Lib.hid fun W h => by
       have := tree_Nodes (HW.out.below h) (by rw [len_tree he0, hlenw]; omega)
       rw [len_tree he0, hlenw] at this
       exact this
      have HSW : Hid (∀ W, Below W14.heap.size W14 W → Calls Tryz.prog 16 #[.agg #[.iface tw (.pointer (some ⟨gw, 0, none⟩))]] W (SelsPost W (treeOf (overR :: (a ++ b))))) := Lib.hid fun W h => tree_Selectors (HW.out.below h) (by rw [len_tree he0, hlenw]; omega) fun x hx => by
       rcases List.mem_cons.1 (mem_tree he0 hx) with e | e
       ·rw [e]; exact over_small.len
       ·exact (List.mem_append.1 e).elim (fun h => (HSA.out _ h).len) (fun h => (HSB.out _ h).len)
      have HSAME2 : Hid (∀ W l1 l2, SelS W l1 (selsOf ((treeOf (overR :: (a ++ b))).map (·.2))) → SelS W l2 (selsOf a ++ selsOf b) → Calls Tryz.prog 28 #[l1, l2] W (BoolPost W true)) := Lib.hid fun W l1 l2 h1 h2 => by
       rw [rows_tree he0, selsOf_skip (by decide), selsOf_app] at h1
       exact law12_sameSelectors_eq h1 h2 (by have e1 := sels_len a; have e2 := sels_len b; rw [← HNA.out] at e1; rw [← HNB.out] at e2; rw [List.length_append]; omega) (fun s hs => (List.mem_append.1 hs).elim (sels_small HSA.out s) (sels_small HSB.out s))
      have p3 : ((mx : Int) = 128) = False := eq_false (by omega)
      have p4 : ((mx : Int) == 128) = false := by rw [beq_eq_false_iff_ne]; omega
      clear hsh2 hdp2 h2 he0 hlenw
      rw [show (((0 : Nat)) : Int) = 0 from rfl]
      go_upto_region 22 with (fail)
      simp only [m1, p4]
      have HYA : Hid (Below W5.heap.size W5 ((W14.alloc (.cells #[] 36)).drew)) := Lib.hid ((HBX14.out.alloc HBX14.out.size _).drew)
      have HYB : Hid (Below W5.heap.size W5 W14.drew) := Lib.hid HBX14.out.drew
      go_cut [14] from 118 to 124 (fun t14 wx => ∃ a4 n4 c4, t14 = .slice a4 n4 c4 ∧ Hid (SelS wx (.slice a4 n4 c4) (selsOf a ++ selsOf b)) ∧ Hid (Below W14.heap.size W14 wx))
      case first =>
       have cx : W14.drew.cell? ⟨w2.heap.size, 0, none⟩ = some (.iface tx (.pointer (some ⟨gx, 0, none⟩))) := HZXy.out.cell 0
       have cy : W14.drew.cell? ⟨w4.heap.size, 0, none⟩ = some (.iface ty (.pointer (some ⟨gy, 0, none⟩))) := HZYy.out.cell 0
       have dx : (W14.alloc (.cells #[] 36)).drew.cell? ⟨w2.heap.size, 0, none⟩ = some (.iface tx (.pointer (some ⟨gx, 0, none⟩))) := (HZXy.out.alloc _).cell 0
       have dy : (W14.alloc (.cells #[] 36)).drew.cell? ⟨w4.heap.size, 0, none⟩ = some (.iface ty (.pointer (some ⟨gy, 0, none⟩))) := (HZYy.out.alloc _).cell 0
       go_region_held3 (fun W => W.cell? ⟨w2.heap.size, 0, none⟩ = some (.iface tx (.pointer (some ⟨gx, 0, none⟩))) ∧ W.cell? ⟨w4.heap.size, 0, none⟩ = some (.iface ty (.pointer (some ⟨gy, 0, none⟩)))) (first | go_keep) (first | (go_at_call 16; (with_reducible refine (HSX.out _ HYA.out).mono ?_); rintro e X1 ⟨l1, zx, rfl, hz1, ho1, hm1, hu⟩; obtain ⟨aL, nL, cL, hvL⟩ := own_sl ho1; subst hvL; have HU1 : Hid (Below W14.heap.size W14 X1) := Lib.hid ((((Below.refl _ W14).alloc (Nat.le_refl _) (.cells #[] 36)).drew).trans (hu.mono (by simp))); have hx1 : W14.heap.size ≤ X1.heap.size := HU1.out.size; have HJ1 : Hid (SelJ W14.heap.size X1 (.slice (some ⟨W14.heap.size, 0, none⟩) 0 0) []) := Lib.hid (((selJ_made W14 W14.heap.size (Nat.le_refl _)).below (Below.refl _ _).drew).below hu); have HM1 : Hid (∀ z ∈ zx, MatK W14.heap.size (.slice (some ⟨W14.heap.size, 0, none⟩) 0 0) X1 z.2 z.1.ms) := Lib.hid (fun z hz => (hm1 z hz).to (by simp) (fun q hq => .inl (by simp [Value.ownBlock] at hq; simp; omega))); have HSR1 := Lib.hid (sels_src ho1 hm1); have hzl1 : zx.length ≤ 65536 := (by have e9 := congrArg List.length hz1; rw [List.length_map, rows_tree HEA.out] at e9; have e8 := sels_len a; rw [← HNA.out] at e8; omega); have HZ1 := Lib.hid hz1; have d1 : X1.cell? ⟨w2.heap.size, 0, none⟩ = some (.iface tx (.pointer (some ⟨gx, 0, none⟩))) := (HU1.out.cell (p := ⟨w2.heap.size, 0, none⟩) lxy).trans (HZXy.out.cell 0); have d2 : X1.cell? ⟨w4.heap.size, 0, none⟩ = some (.iface ty (.pointer (some ⟨gy, 0, none⟩))) := (HU1.out.cell (p := ⟨w4.heap.size, 0, none⟩) lyy).trans (HZYy.out.cell 0); clear hz1 ho1 hm1 hu) | (go_at_call 16; (with_reducible refine (HSX.out _ HYB.out).mono ?_); rintro e X1 ⟨l1, zx, rfl, hz1, ho1, hm1, hu⟩; obtain ⟨aL, nL, cL, hvL⟩ := own_sl ho1; subst hvL; have HU1 : Hid (Below W14.heap.size W14 X1) := Lib.hid (((Below.refl _ W14).drew).trans hu); have hx1 : W14.heap.size ≤ X1.heap.size := HU1.out.size; have hal : Below X1.heap.size X1 (X1.alloc (.cells #[] 36)) := (Below.refl _ X1).alloc (Nat.le_refl _) _; have HU1b : Hid (Below W14.heap.size W14 (X1.alloc (.cells #[] 36))) := Lib.hid (HU1.out.trans (hal.mono hx1)); have HJ1b : Hid (SelJ W14.heap.size (X1.alloc (.cells #[] 36)) (.slice (some ⟨X1.heap.size, 0, none⟩) 0 0) []) := Lib.hid (selJ_made X1 W14.heap.size hx1); have HM1b : Hid (∀ z ∈ zx, MatK W14.heap.size (.slice (some ⟨X1.heap.size, 0, none⟩) 0 0) (X1.alloc (.cells #[] 36)) z.2 z.1.ms) := Lib.hid (fun z hz => ((hm1 z hz).to (Nat.le_refl _) (fun q hq => .inr (by simp [Value.ownBlock] at hq; omega))).below hal); have HSR1b := Lib.hid ((sels_src ho1 hm1).below hal); have hzl1 : zx.length ≤ 65536 := (by have e9 := congrArg List.length hz1; rw [List.length_map, rows_tree HEA.out] at e9; have e8 := sels_len a; rw [← HNA.out] at e8; omega); have HZ1 := Lib.hid hz1; have d1 : X1.cell? ⟨w2.heap.size, 0, none⟩ = some (.iface tx (.pointer (some ⟨gx, 0, none⟩))) := (HU1.out.cell (p := ⟨w2.heap.size, 0, none⟩) lxy).trans (HZXy.out.cell 0); have d2 : X1.cell? ⟨w4.heap.size, 0, none⟩ = some (.iface ty (.pointer (some ⟨gy, 0, none⟩))) := (HU1.out.cell (p := ⟨w4.heap.size, 0, none⟩) lyy).trans (HZYy.out.cell 0); have y1 : (X1.alloc (.cells #[] 36)).cell? ⟨w2.heap.size, 0, none⟩ = some (.iface tx (.pointer (some ⟨gx, 0, none⟩))) := (HU1b.out.cell (p := ⟨w2.heap.size, 0, none⟩) lxy).trans (HZXy.out.cell 0); have y2 : (X1.alloc (.cells #[] 36)).cell? ⟨w4.heap.size, 0, none⟩ = some (.iface ty (.pointer (some ⟨gy, 0, none⟩))) := (HU1b.out.cell (p := ⟨w4.heap.size, 0, none⟩) lyy).trans (HZYy.out.cell 0); clear hz1 ho1 hm1 hu hal) | (refine step_append_src2 (by rfl) (.tmp 118) (.tmp 120) 30 (by rfl) W14.heap.size 36 _ 4 72 info_sel Tryz.underlying30 rfl (by decide) _ 0 [] (by rfl) HJ1.out.own _ zx.length (zx.flatMap selC) (by rfl) HSR1.out (by unfold maxLen; omega) (by omega) HU1.out.size ?_; intro v2 X2 ho2 hg2 ht2; have HJ2 := Lib.hid (SelJ.join HJ1.out HM1.out ho2 hg2 ht2); have HU2 : Hid (Below W14.heap.size W14 X2) := Lib.hid (HU1.out.grown hg2 HU1.out.size (fun k hk => (HJ1.out.own.lt k hk).1)); obtain ⟨a2, n2, c2, hv2⟩ := own_sl ho2; subst hv2; have f1 : X2.cell? ⟨w2.heap.size, 0, none⟩ = some (.iface tx (.pointer (some ⟨gx, 0, none⟩))) := (HU2.out.cell (p := ⟨w2.heap.size, 0, none⟩) lxy).trans (HZXy.out.cell 0); have f2 : X2.cell? ⟨w4.heap.size, 0, none⟩ = some (.iface ty (.pointer (some ⟨gy, 0, none⟩))) := (HU2.out.cell (p := ⟨w4.heap.size, 0, none⟩) lyy).trans (HZYy.out.cell 0); have HYX2 := Lib.hid (HBX14.out.trans (HU2.out.mono HBX14.out.size)); clear ho2 hg2 ht2) | (refine step_append_src2 (by rfl) (.tmp 118) (.tmp 120) 30 (by rfl) W14.heap.size 36 _ 4 72 info_sel Tryz.underlying30 rfl (by decide) _ 0 [] (by rfl) HJ1b.out.own _ zx.length (zx.flatMap selC) (by rfl) HSR1b.out (by unfold maxLen; omega) (by omega) HU1b.out.size ?_; intro v2 X2 ho2 hg2 ht2; have HJ2 := Lib.hid (SelJ.join HJ1b.out HM1b.out ho2 hg2 ht2); have HU2 : Hid (Below W14.heap.size W14 X2) := Lib.hid (HU1b.out.grown hg2 HU1b.out.size (fun k hk => (HJ1b.out.own.lt k hk).1)); obtain ⟨a2, n2, c2, hv2⟩ := own_sl ho2; subst hv2; have f1 : X2.cell? ⟨w2.heap.size, 0, none⟩ = some (.iface tx (.pointer (some ⟨gx, 0, none⟩))) := (HU2.out.cell (p := ⟨w2.heap.size, 0, none⟩) lxy).trans (HZXy.out.cell 0); have f2 : X2.cell? ⟨w4.heap.size, 0, none⟩ = some (.iface ty (.pointer (some ⟨gy, 0, none⟩))) := (HU2.out.cell (p := ⟨w4.heap.size, 0, none⟩) lyy).trans (HZYy.out.cell 0); have HYX2 := Lib.hid (HBX14.out.trans (HU2.out.mono HBX14.out.size)); clear ho2 hg2 ht2) | (go_at_call 16; (with_reducible refine (HSY.out _ HYX2.out).mono ?_); rintro e X3 ⟨l3, zy, rfl, hz3, ho3, hm3, hu⟩; obtain ⟨aM, nM, cM, hvM⟩ := own_sl ho3; subst hvM; have HU3 : Hid (Below W14.heap.size W14 X3) := Lib.hid (HU2.out.trans (hu.mono HU2.out.size)); have HJ3 := Lib.hid (HJ2.out.below hu); have HM3 : Hid (∀ z ∈ zy, MatK W14.heap.size (.slice a2 n2 c2) X3 z.2 z.1.ms) := Lib.hid (fun z hz => (hm3 z hz).to HU2.out.size (fun q hq => .inl (HJ2.out.own.lt q hq).2)); have HSR3 := Lib.hid (sels_src ho3 hm3); have hzl3 : zy.length ≤ 65536 := (by have e9 := congrArg List.length hz3; rw [List.length_map, rows_tree HEB.out] at e9; have e8 := sels_len b; rw [← HNB.out] at e8; omega); have HZ3y := Lib.hid hz3; have g1 : X3.cell? ⟨w2.heap.size, 0, none⟩ = some (.iface tx (.pointer (some ⟨gx, 0, none⟩))) := (HU3.out.cell (p := ⟨w2.heap.size, 0, none⟩) lxy).trans (HZXy.out.cell 0); have g2 : X3.cell? ⟨w4.heap.size, 0, none⟩ = some (.iface ty (.pointer (some ⟨gy, 0, none⟩))) := (HU3.out.cell (p := ⟨w4.heap.size, 0, none⟩) lyy).trans (HZYy.out.cell 0); clear hz3 ho3 hm3 hu) | (refine step_append_src2 (by rfl) (.tmp 121) (.tmp 123) 30 (by rfl) W14.heap.size 36 _ 4 72 info_sel Tryz.underlying30 rfl (by decide) _ _ _ (by rfl) HJ3.out.own _ zy.length (zy.flatMap selC) (by rfl) HSR3.out (by simp only [List.nil_append]; unfold maxLen; omega) (by simp only [List.nil_append]; omega) HU3.out.size ?_; intro v4 X4 ho4 hg4 ht4; have HJ4 := Lib.hid (SelJ.join HJ3.out HM3.out ho4 hg4 ht4); have HU4 : Hid (Below W14.heap.size W14 X4) := Lib.hid (HU3.out.grown hg4 HU3.out.size (fun k hk => (HJ3.out.own.lt k hk).1)); obtain ⟨a4, n4, c4, hv4⟩ := own_sl ho4; subst hv4; have i1 : X4.cell? ⟨w2.heap.size, 0, none⟩ = some (.iface tx (.pointer (some ⟨gx, 0, none⟩))) := (HU4.out.cell (p := ⟨w2.heap.size, 0, none⟩) lxy).trans (HZXy.out.cell 0); have i2 : X4.cell? ⟨w4.heap.size, 0, none⟩ = some (.iface ty (.pointer (some ⟨gy, 0, none⟩))) := (HU4.out.cell (p := ⟨w4.heap.size, 0, none⟩) lyy).trans (HZYy.out.cell 0); clear ho4 hg4 ht4))
       all_goals
        go_wp2_with fail
        go_meet
        exact ⟨a4, n4, c4, rfl, Lib.hid (by have h9 := HJ4.out.sel; rw [List.map_append, List.map_append, HZ1.out, HZ3y.out, rows_tree HEA.out, rows_tree HEB.out] at h9; simpa using h9), HU4⟩
      case rest =>
       obtain ⟨a4, n4, c4, rfl, HLc, HVc⟩ := hcut
       go_upto_region 23 with (fail)
       have c1 : wc.drew.cell? ⟨w2.heap.size, 0, none⟩ = some (.iface tx (.pointer (some ⟨gx, 0, none⟩))) := (HVc.out.cell (p := ⟨w2.heap.size, 0, none⟩) lxy).trans (HZXy.out.cell 0)
       have c2 : wc.drew.cell? ⟨w4.heap.size, 0, none⟩ = some (.iface ty (.pointer (some ⟨gy, 0, none⟩))) := (HVc.out.cell (p := ⟨w4.heap.size, 0, none⟩) lyy).trans (HZYy.out.cell 0)
       have c3 : wc.drew.cell? ⟨W13.heap.size, 0, none⟩ = some (.iface tw (.pointer (some ⟨gw, 0, none⟩))) := (HVc.out.cell (p := ⟨W13.heap.size, 0, none⟩) lww).trans (HZW.out.cell 0)
       have HV0 : Hid (Below W14.heap.size W14 wc.drew) := Lib.hid HVc.out.drew
       have HL0 : Hid (SelS wc.drew (.slice a4 n4 c4) (selsOf a ++ selsOf b)) := Lib.hid (HLc.out.below (Below.refl _ wc).drew)
       have x1 : IntKind.i64.wrap ((mx : Int) + 1) = (mx : Int) + 1 := IntWalk.i64_in _ (by omega)
       have x2 : IntKind.i64.wrap ((na : Int) + (nb : Int)) = (na : Int) + (nb : Int) := IntWalk.i64_in _ (by omega)
       have x3 : IntKind.i64.wrap ((na : Int) + (nb : Int) + 1) = (na : Int) + (nb : Int) + 1 := IntWalk.i64_in _ (by omega)
       go_region_held3 (fun W => W.cell? ⟨w2.heap.size, 0, none⟩ = some (.iface tx (.pointer (some ⟨gx, 0, none⟩))) ∧ W.cell? ⟨w4.heap.size, 0, none⟩ = some (.iface ty (.pointer (some ⟨gy, 0, none⟩))) ∧ W.cell? ⟨W13.heap.size, 0, none⟩ = some (.iface tw (.pointer (some ⟨gw, 0, none⟩)))) (first | go_keep) (first | (go_at_call 26; (with_reducible refine (HDW.out _ HV0.out).mono ?_); rintro e U1 ⟨rfl, hu⟩; have HV1 := Lib.hid (HV0.out.trans (hu.mono HV0.out.size)); have HL1 := Lib.hid (HL0.out.below hu); have d1 : U1.cell? ⟨w2.heap.size, 0, none⟩ = some (.iface tx (.pointer (some ⟨gx, 0, none⟩))) := (HV1.out.cell (p := ⟨w2.heap.size, 0, none⟩) lxy).trans (HZXy.out.cell 0); have d2 : U1.cell? ⟨w4.heap.size, 0, none⟩ = some (.iface ty (.pointer (some ⟨gy, 0, none⟩))) := (HV1.out.cell (p := ⟨w4.heap.size, 0, none⟩) lyy).trans (HZYy.out.cell 0); have d3 : U1.cell? ⟨W13.heap.size, 0, none⟩ = some (.iface tw (.pointer (some ⟨gw, 0, none⟩))) := (HV1.out.cell (p := ⟨W13.heap.size, 0, none⟩) lww).trans (HZW.out.cell 0); clear hu) | (go_at_call 27; (with_reducible refine (HNW.out _ HV1.out).mono ?_); rintro e U2 ⟨rfl, hu⟩; have HV2 := Lib.hid (HV1.out.trans (hu.mono HV1.out.size)); have HL2 := Lib.hid (HL1.out.below hu); have f1 : U2.cell? ⟨w2.heap.size, 0, none⟩ = some (.iface tx (.pointer (some ⟨gx, 0, none⟩))) := (HV2.out.cell (p := ⟨w2.heap.size, 0, none⟩) lxy).trans (HZXy.out.cell 0); have f2 : U2.cell? ⟨w4.heap.size, 0, none⟩ = some (.iface ty (.pointer (some ⟨gy, 0, none⟩))) := (HV2.out.cell (p := ⟨w4.heap.size, 0, none⟩) lyy).trans (HZYy.out.cell 0); have f3 : U2.cell? ⟨W13.heap.size, 0, none⟩ = some (.iface tw (.pointer (some ⟨gw, 0, none⟩))) := (HV2.out.cell (p := ⟨W13.heap.size, 0, none⟩) lww).trans (HZW.out.cell 0); clear hu) | (go_at_call 27; (with_reducible refine (HNX.out _ (HBX14.out.trans (HV2.out.mono HBX14.out.size))).mono ?_); rintro e U3 ⟨rfl, hu⟩; have HV3 := Lib.hid (HV2.out.trans (hu.mono HV2.out.size)); have HL3 := Lib.hid (HL2.out.below hu); have g1 : U3.cell? ⟨w2.heap.size, 0, none⟩ = some (.iface tx (.pointer (some ⟨gx, 0, none⟩))) := (HV3.out.cell (p := ⟨w2.heap.size, 0, none⟩) lxy).trans (HZXy.out.cell 0); have g2 : U3.cell? ⟨w4.heap.size, 0, none⟩ = some (.iface ty (.pointer (some ⟨gy, 0, none⟩))) := (HV3.out.cell (p := ⟨w4.heap.size, 0, none⟩) lyy).trans (HZYy.out.cell 0); have g3 : U3.cell? ⟨W13.heap.size, 0, none⟩ = some (.iface tw (.pointer (some ⟨gw, 0, none⟩))) := (HV3.out.cell (p := ⟨W13.heap.size, 0, none⟩) lww).trans (HZW.out.cell 0); clear hu) | (go_at_call 27; (with_reducible refine (HNY.out _ (HBX14.out.trans (HV3.out.mono HBX14.out.size))).mono ?_); rintro e U4 ⟨rfl, hu⟩; have HV4 := Lib.hid (HV3.out.trans (hu.mono HV3.out.size)); have HL4 := Lib.hid (HL3.out.below hu); have i1 : U4.cell? ⟨w2.heap.size, 0, none⟩ = some (.iface tx (.pointer (some ⟨gx, 0, none⟩))) := (HV4.out.cell (p := ⟨w2.heap.size, 0, none⟩) lxy).trans (HZXy.out.cell 0); have i2 : U4.cell? ⟨w4.heap.size, 0, none⟩ = some (.iface ty (.pointer (some ⟨gy, 0, none⟩))) := (HV4.out.cell (p := ⟨w4.heap.size, 0, none⟩) lyy).trans (HZYy.out.cell 0); have i3 : U4.cell? ⟨W13.heap.size, 0, none⟩ = some (.iface tw (.pointer (some ⟨gw, 0, none⟩))) := (HV4.out.cell (p := ⟨W13.heap.size, 0, none⟩) lww).trans (HZW.out.cell 0); clear hu) | (go_at_call 16; (with_reducible refine (HSW.out _ HV4.out).mono ?_); intro e U5 hp; obtain ⟨l5, rfl, hl5, hu⟩ := hp.sels; have HLW := Lib.hid hl5; have HL5 := Lib.hid (HL4.out.below hu); have HV5 := Lib.hid (HV4.out.trans (hu.mono HV4.out.size)); have j1 : U5.cell? ⟨w2.heap.size, 0, none⟩ = some (.iface tx (.pointer (some ⟨gx, 0, none⟩))) := (HV5.out.cell (p := ⟨w2.heap.size, 0, none⟩) lxy).trans (HZXy.out.cell 0); have j2 : U5.cell? ⟨w4.heap.size, 0, none⟩ = some (.iface ty (.pointer (some ⟨gy, 0, none⟩))) := (HV5.out.cell (p := ⟨w4.heap.size, 0, none⟩) lyy).trans (HZYy.out.cell 0); have j3 : U5.cell? ⟨W13.heap.size, 0, none⟩ = some (.iface tw (.pointer (some ⟨gw, 0, none⟩))) := (HV5.out.cell (p := ⟨W13.heap.size, 0, none⟩) lww).trans (HZW.out.cell 0); clear hu hl5 hp) | (go_at_call 28; (with_reducible refine (HSAME2.out _ _ _ HLW.out HL5.out).mono ?_); rintro e U6 ⟨rfl, hu⟩; have HV6 := Lib.hid (HV5.out.trans (hu.mono HV5.out.size)); have k1 : U6.cell? ⟨w2.heap.size, 0, none⟩ = some (.iface tx (.pointer (some ⟨gx, 0, none⟩))) := (HV6.out.cell (p := ⟨w2.heap.size, 0, none⟩) lxy).trans (HZXy.out.cell 0); have k2 : U6.cell? ⟨w4.heap.size, 0, none⟩ = some (.iface ty (.pointer (some ⟨gy, 0, none⟩))) := (HV6.out.cell (p := ⟨w4.heap.size, 0, none⟩) lyy).trans (HZYy.out.cell 0); have k3 : U6.cell? ⟨W13.heap.size, 0, none⟩ = some (.iface tw (.pointer (some ⟨gw, 0, none⟩))) := (HV6.out.cell (p := ⟨W13.heap.size, 0, none⟩) lww).trans (HZW.out.cell 0); clear hu))
       all_goals
        clear x1 x2 x3 c1 c2 c3
        go_wp2_with fail
        go_ret
        exact ⟨rfl, HBW14.out.trans (HV6.out.mono HBW14.out.size)⟩
   ·have q2 : ((buildErr b : Int) = 0) = False := eq_false (by omega)
    have q3 : (buildErr b = 0) = False := eq_false heb
    have q4 : ((buildErr b : Int) != 0) = true := by simpa using heb
    rw [hea]
    clear hea heb
    go_wp2_with fail
    go_ret
    exact ⟨rfl, HB5.out⟩
  ·have q2 : ((buildErr a : Int) = 0) = False := eq_false (by omega)
   have q3 : (buildErr a = 0) = False := eq_false hea
   have q4 : ((buildErr a : Int) != 0) = true := by simpa using hea
   clear hea
   go_wp2_with fail
   go_ret
   exact ⟨rfl, HB5.out⟩
end Go.Proofs.YtibcjfjacielbaaGreatDoor
