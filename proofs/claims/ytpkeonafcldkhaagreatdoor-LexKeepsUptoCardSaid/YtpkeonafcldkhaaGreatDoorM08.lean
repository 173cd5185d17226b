import Derived.Test.YtpkeonafcldkhaaGreatDoorM07
/- lex: operator. -/
set_option linter.unusedVariables false
set_option linter.unusedSimpArgs false
namespace Go.Proofs.YtpkeonafcldkhaaGreatDoor
open Go.RowKit

/-- An operator of a scanner whose rest is t, a put ahead. -/
theorem TokPost.put {base p : Nat} {s : ByteArray} {at' : Nat} {br sq br' sq' : Bool} {ts : List Tok} {w w1 w' : World} {k n : Nat} {r : TokR} {e : Ending} (hr : r = .tok k n br' sq') (hb : Below base w w1)
    (h : PutPost base p s (at' + n) br' sq' (ts ++ [⟨k, (s.data.toList.drop at').take n, at'⟩]) w1 e w') : TokPost base p s at' br sq ts w r e w' := by
  subst hr; exact h.from hb
theorem ops2_no {L : List UInt8} (g0 : (L == [61, 61]) = false) (g1 : (L == [33, 61]) = false) (g2 : (L == [61, 126]) = false) (g3 : (L == [33, 126]) = false) (g4 : (L == [60, 61]) = false) (g5 : (L == [62, 61]) = false) : ops2.contains L = false := by
  simp only [beq_eq_false_iff_ne] at g0 g1 g2 g3 g4 g5
  simp only [ops2, List.contains_eq_mem, decide_eq_false_iff_not, List.mem_cons, List.not_mem_nil, or_false]
  rintro (h | h | h | h | h | h)
  · exact g0 h
  · exact g1 h
  · exact g2 h
  · exact g3 h
  · exact g4 h
  · exact g5 h
theorem beqI {c : UInt8} {n : Nat} {b : Bool} (h : ((c.toNat : Int) == (n : Int)) = b) : decide (c.toNat = n) = b := by
  cases b
  · exact decide_eq_false (fun e => by rw [e] at h; simp at h)
  · exact decide_eq_true (by have : (c.toNat : Int) = (n : Int) := by simpa using h
                             omega)
set_option maxRecDepth 100000 in
set_option maxHeartbeats 4000000 in
theorem lex_operator (w : World) (base p : Nat) (s : ByteArray) (at' : Nat) (br sq : Bool) (v : Value) (ts : List Tok) (hs : s.size ≤ 281474976710656) (hat : at' < s.size)
    (hz : ZAt w p s at' br sq v) (hown : w.ownsRow base 33 3 v ts.length (toksCells ts)) (hlen : ts.length ≤ 1099511627776) (hbp : base ≤ p) :
    Calls Tryz.prog 54 #[.pointer (some ⟨p, 0, none⟩)] w (TokPost base p s at' br sq ts w (opR (s.data.toList.drop at') br sq)) := by
  have c0 : w.cell? ⟨p, 0, none⟩ = some (.string s) := by rw [hz.cell]; rfl
  have c1 : w.cell? ⟨p, 1, none⟩ = some (.int .i64 (at' : Int)) := by rw [hz.cell]; rfl
  have q1 : ((at' : Int) ≤ (s.size : Int)) = True := by simp; omega
  obtain ⟨t, ht⟩ : ∃ t, t = s.extract at' s.size := ⟨_, rfl⟩
  have htd : t.data.toList = s.data.toList.drop at' := by rw [ht, extract_from]
  have hts : t.size = s.size - at' := by rw [ht]; simp
  have ht0 : 0 < t.size := by omega
  rw [← htd]
  have HZ := Lib.hid hz
  have HO := Lib.hid hown
  have HD := Lib.hid htd
  have HT := Lib.hid ht
  clear hz hown htd ht
  go_enter Tryz.func54, Tryz.ntmps54
  go_wp2_with fail
  go_quiet (fail)
  rw [← HT.out]
  have hz2 : ZAt (w.drewN nq) p s at' br sq v := Blk.drewN HZ.out nq
  have ho2 : (w.drewN nq).ownsRow base 33 3 v ts.length (toksCells ts) := HO.out
  have hb2 : Below base w (w.drewN nq) := below_drewN (Below.refl base w) nq
  generalize w.drewN nq = w2 at hz2 ho2 hb2 ⊢
  have d2 : w2.cell? ⟨p, 2, none⟩ = some (.bool br) := by rw [hz2.cell]; rfl
  have d3 : w2.cell? ⟨p, 3, none⟩ = some (.bool sq) := by rw [hz2.cell]; rfl
  have f2 : w2.frozen? ⟨p, 2, none⟩ = false := hz2.frozen 2
  have f3 : w2.frozen? ⟨p, 3, none⟩ = false := hz2.frozen 3
  have hat0 : (atB t.data.toList 0).toNat = t[0].toNat := by rw [atB_lt ht0]
  have HZ2 := Lib.hid hz2
  have HO2 := Lib.hid ho2
  have HB2 := Lib.hid hb2
  have HA := Lib.hid hat0
  clear hz2 ho2 hb2 hat0 c0 c1
  by_cases h1 : 1 < t.size
  · obtain ⟨L, hL⟩ : ∃ L, L = t.data.toList.take 2 := ⟨_, rfl⟩
    have hLs : t.extract 0 2 = ⟨L.toArray⟩ := by rw [hL, ← mk_data (t.extract 0 2), extract_to]
    have hop2 : op2 t.data.toList = ops2.contains L := by rw [op2, len_data, decide_eq_true h1, Bool.true_and, hL]
    have HL := Lib.hid hLs
    have HOP2 := Lib.hid hop2
    clear hL hLs hop2
    go_upto_region 4 with fail
    rw [HL.out]
    cases g0 : (L == [61, 61])
    · cases g1 : (L == [33, 61])
      · cases g2 : (L == [61, 126])
        · cases g3 : (L == [33, 126])
          · cases g4 : (L == [60, 61])
            · cases g5 : (L == [62, 61])
              · have hop : op2 t.data.toList = false := by
                  rw [HOP2.out]; exact ops2_no g0 g1 g2 g3 g4 g5
                have HOP := Lib.hid hop
                clear hop
                go_upto_region 13 with fail
                cases e123 : ((t[0].toNat : Int) == 123)
                · cases e125 : ((t[0].toNat : Int) == 125)
                  · cases e91 : ((t[0].toNat : Int) == 91)
                    · cases e93 : ((t[0].toNat : Int) == 93)
                      · cases e40 : ((t[0].toNat : Int) == 40)
                        · cases e41 : ((t[0].toNat : Int) == 41)
                          · cases e44 : ((t[0].toNat : Int) == 44)
                            · cases e58 : ((t[0].toNat : Int) == 58)
                              · cases e61 : ((t[0].toNat : Int) == 61)
                                · cases e60 : ((t[0].toNat : Int) == 60)
                                  · cases e62 : ((t[0].toNat : Int) == 62)
                                    · cases e43 : ((t[0].toNat : Int) == 43)
                                      · cases e45 : ((t[0].toNat : Int) == 45)
                                        · cases e42 : ((t[0].toNat : Int) == 42)
                                          · cases e47 : ((t[0].toNat : Int) == 47)
                                            · cases e37 : ((t[0].toNat : Int) == 37)
                                              · cases e94 : ((t[0].toNat : Int) == 94)
                                                · cases e64 : ((t[0].toNat : Int) == 64)
                                                  · have hR : opR t.data.toList br sq = .bad 110 := by
                                                      rw [opR_one HOP.out HA.out]
                                                      have n123 := neT e123
                                                      have n125 := neT e125
                                                      have n91 := neT e91
                                                      have n93 := neT e93
                                                      have n40 := neT e40
                                                      have n41 := neT e41
                                                      have n44 := neT e44
                                                      have n58 := neT e58
                                                      have n61 := neT e61
                                                      have n60 := neT e60
                                                      have n62 := neT e62
                                                      have n43 := neT e43
                                                      have n45 := neT e45
                                                      have n42 := neT e42
                                                      have n47 := neT e47
                                                      have n37 := neT e37
                                                      have n94 := neT e94
                                                      have n64 := neT e64
                                                      rw [if_neg (by omega), if_neg (by omega), if_neg (by omega), if_neg (by omega), if_neg]
                                                      simp [ops1]
                                                      omega
                                                    have HR := Lib.hid hR
                                                    clear hR
                                                    go_wp2_with fail
                                                    go_ret
                                                    rw [HR.out]
                                                    exact ⟨rfl, v, HZ2.out, HO2.out, HB2.out⟩
                                                  · have hN : t[0].toNat = 64 := by have := eqT e64; omega
                                                    have hR : opR t.data.toList br sq = .tok 6 1 br sq := (opR_one HOP.out (HA.out.trans hN)).trans rfl
                                                    clear hN
                                                    have HR := Lib.hid hR
                                                    clear hR
                                                    go_wp2_with fail
                                                    refine (lex_put w2 base p s at' 6 1 _ _ rfl rfl br sq v ts hs (by omega) (by omega) HZ2.out HO2.out hlen hbp).mono ?_
                                                    intro e w5 hp
                                                    have h0 := hp.1
                                                    subst h0
                                                    have HQ := Lib.hid (TokPost.put (br := br) (sq := sq) HR.out HB2.out hp)
                                                    clear hp
                                                    go_wp2_with fail
                                                    go_ret
                                                    exact HQ.out
                                                · have hN : t[0].toNat = 94 := by have := eqT e94; omega
                                                  have hR : opR t.data.toList br sq = .tok 6 1 br sq := (opR_one HOP.out (HA.out.trans hN)).trans rfl
                                                  clear hN
                                                  have HR := Lib.hid hR
                                                  clear hR
                                                  go_wp2_with fail
                                                  refine (lex_put w2 base p s at' 6 1 _ _ rfl rfl br sq v ts hs (by omega) (by omega) HZ2.out HO2.out hlen hbp).mono ?_
                                                  intro e w5 hp
                                                  have h0 := hp.1
                                                  subst h0
                                                  have HQ := Lib.hid (TokPost.put (br := br) (sq := sq) HR.out HB2.out hp)
                                                  clear hp
                                                  go_wp2_with fail
                                                  go_ret
                                                  exact HQ.out
                                              · have hN : t[0].toNat = 37 := by have := eqT e37; omega
                                                have hR : opR t.data.toList br sq = .tok 6 1 br sq := (opR_one HOP.out (HA.out.trans hN)).trans rfl
                                                clear hN
                                                have HR := Lib.hid hR
                                                clear hR
                                                go_wp2_with fail
                                                refine (lex_put w2 base p s at' 6 1 _ _ rfl rfl br sq v ts hs (by omega) (by omega) HZ2.out HO2.out hlen hbp).mono ?_
                                                intro e w5 hp
                                                have h0 := hp.1
                                                subst h0
                                                have HQ := Lib.hid (TokPost.put (br := br) (sq := sq) HR.out HB2.out hp)
                                                clear hp
                                                go_wp2_with fail
                                                go_ret
                                                exact HQ.out
                                            · have hN : t[0].toNat = 47 := by have := eqT e47; omega
                                              have hR : opR t.data.toList br sq = .tok 6 1 br sq := (opR_one HOP.out (HA.out.trans hN)).trans rfl
                                              clear hN
                                              have HR := Lib.hid hR
                                              clear hR
                                              go_wp2_with fail
                                              refine (lex_put w2 base p s at' 6 1 _ _ rfl rfl br sq v ts hs (by omega) (by omega) HZ2.out HO2.out hlen hbp).mono ?_
                                              intro e w5 hp
                                              have h0 := hp.1
                                              subst h0
                                              have HQ := Lib.hid (TokPost.put (br := br) (sq := sq) HR.out HB2.out hp)
                                              clear hp
                                              go_wp2_with fail
                                              go_ret
                                              exact HQ.out
                                          · have hN : t[0].toNat = 42 := by have := eqT e42; omega
                                            have hR : opR t.data.toList br sq = .tok 6 1 br sq := (opR_one HOP.out (HA.out.trans hN)).trans rfl
                                            clear hN
                                            have HR := Lib.hid hR
                                            clear hR
                                            go_wp2_with fail
                                            refine (lex_put w2 base p s at' 6 1 _ _ rfl rfl br sq v ts hs (by omega) (by omega) HZ2.out HO2.out hlen hbp).mono ?_
                                            intro e w5 hp
                                            have h0 := hp.1
                                            subst h0
                                            have HQ := Lib.hid (TokPost.put (br := br) (sq := sq) HR.out HB2.out hp)
                                            clear hp
                                            go_wp2_with fail
                                            go_ret
                                            exact HQ.out
                                        · have hN : t[0].toNat = 45 := by have := eqT e45; omega
                                          have hR : opR t.data.toList br sq = .tok 6 1 br sq := (opR_one HOP.out (HA.out.trans hN)).trans rfl
                                          clear hN
                                          have HR := Lib.hid hR
                                          clear hR
                                          go_wp2_with fail
                                          refine (lex_put w2 base p s at' 6 1 _ _ rfl rfl br sq v ts hs (by omega) (by omega) HZ2.out HO2.out hlen hbp).mono ?_
                                          intro e w5 hp
                                          have h0 := hp.1
                                          subst h0
                                          have HQ := Lib.hid (TokPost.put (br := br) (sq := sq) HR.out HB2.out hp)
                                          clear hp
                                          go_wp2_with fail
                                          go_ret
                                          exact HQ.out
                                      · have hN : t[0].toNat = 43 := by have := eqT e43; omega
                                        have hR : opR t.data.toList br sq = .tok 6 1 br sq := (opR_one HOP.out (HA.out.trans hN)).trans rfl
                                        clear hN
                                        have HR := Lib.hid hR
                                        clear hR
                                        go_wp2_with fail
                                        refine (lex_put w2 base p s at' 6 1 _ _ rfl rfl br sq v ts hs (by omega) (by omega) HZ2.out HO2.out hlen hbp).mono ?_
                                        intro e w5 hp
                                        have h0 := hp.1
                                        subst h0
                                        have HQ := Lib.hid (TokPost.put (br := br) (sq := sq) HR.out HB2.out hp)
                                        clear hp
                                        go_wp2_with fail
                                        go_ret
                                        exact HQ.out
                                    · have hN : t[0].toNat = 62 := by have := eqT e62; omega
                                      have hR : opR t.data.toList br sq = .tok 6 1 br sq := (opR_one HOP.out (HA.out.trans hN)).trans rfl
                                      clear hN
                                      have HR := Lib.hid hR
                                      clear hR
                                      go_wp2_with fail
                                      refine (lex_put w2 base p s at' 6 1 _ _ rfl rfl br sq v ts hs (by omega) (by omega) HZ2.out HO2.out hlen hbp).mono ?_
                                      intro e w5 hp
                                      have h0 := hp.1
                                      subst h0
                                      have HQ := Lib.hid (TokPost.put (br := br) (sq := sq) HR.out HB2.out hp)
                                      clear hp
                                      go_wp2_with fail
                                      go_ret
                                      exact HQ.out
                                  · have hN : t[0].toNat = 60 := by have := eqT e60; omega
                                    have hR : opR t.data.toList br sq = .tok 6 1 br sq := (opR_one HOP.out (HA.out.trans hN)).trans rfl
                                    clear hN
                                    have HR := Lib.hid hR
                                    clear hR
                                    go_wp2_with fail
                                    refine (lex_put w2 base p s at' 6 1 _ _ rfl rfl br sq v ts hs (by omega) (by omega) HZ2.out HO2.out hlen hbp).mono ?_
                                    intro e w5 hp
                                    have h0 := hp.1
                                    subst h0
                                    have HQ := Lib.hid (TokPost.put (br := br) (sq := sq) HR.out HB2.out hp)
                                    clear hp
                                    go_wp2_with fail
                                    go_ret
                                    exact HQ.out
                                · have hN : t[0].toNat = 61 := by have := eqT e61; omega
                                  have hR : opR t.data.toList br sq = .tok 6 1 br sq := (opR_one HOP.out (HA.out.trans hN)).trans rfl
                                  clear hN
                                  have HR := Lib.hid hR
                                  clear hR
                                  go_wp2_with fail
                                  refine (lex_put w2 base p s at' 6 1 _ _ rfl rfl br sq v ts hs (by omega) (by omega) HZ2.out HO2.out hlen hbp).mono ?_
                                  intro e w5 hp
                                  have h0 := hp.1
                                  subst h0
                                  have HQ := Lib.hid (TokPost.put (br := br) (sq := sq) HR.out HB2.out hp)
                                  clear hp
                                  go_wp2_with fail
                                  go_ret
                                  exact HQ.out
                              · have hN : t[0].toNat = 58 := by have := eqT e58; omega
                                have hR : opR t.data.toList br sq = .tok 6 1 br sq := (opR_one HOP.out (HA.out.trans hN)).trans rfl
                                clear hN
                                have HR := Lib.hid hR
                                clear hR
                                go_wp2_with fail
                                refine (lex_put w2 base p s at' 6 1 _ _ rfl rfl br sq v ts hs (by omega) (by omega) HZ2.out HO2.out hlen hbp).mono ?_
                                intro e w5 hp
                                have h0 := hp.1
                                subst h0
                                have HQ := Lib.hid (TokPost.put (br := br) (sq := sq) HR.out HB2.out hp)
                                clear hp
                                go_wp2_with fail
                                go_ret
                                exact HQ.out
                            · have hN : t[0].toNat = 44 := by have := eqT e44; omega
                              have hR : opR t.data.toList br sq = .tok 6 1 br sq := (opR_one HOP.out (HA.out.trans hN)).trans rfl
                              clear hN
                              have HR := Lib.hid hR
                              clear hR
                              go_wp2_with fail
                              refine (lex_put w2 base p s at' 6 1 _ _ rfl rfl br sq v ts hs (by omega) (by omega) HZ2.out HO2.out hlen hbp).mono ?_
                              intro e w5 hp
                              have h0 := hp.1
                              subst h0
                              have HQ := Lib.hid (TokPost.put (br := br) (sq := sq) HR.out HB2.out hp)
                              clear hp
                              go_wp2_with fail
                              go_ret
                              exact HQ.out
                          · have hN : t[0].toNat = 41 := by have := eqT e41; omega
                            have hR : opR t.data.toList br sq = .tok 6 1 br sq := (opR_one HOP.out (HA.out.trans hN)).trans rfl
                            clear hN
                            have HR := Lib.hid hR
                            clear hR
                            go_wp2_with fail
                            refine (lex_put w2 base p s at' 6 1 _ _ rfl rfl br sq v ts hs (by omega) (by omega) HZ2.out HO2.out hlen hbp).mono ?_
                            intro e w5 hp
                            have h0 := hp.1
                            subst h0
                            have HQ := Lib.hid (TokPost.put (br := br) (sq := sq) HR.out HB2.out hp)
                            clear hp
                            go_wp2_with fail
                            go_ret
                            exact HQ.out
                        · have hN : t[0].toNat = 40 := by have := eqT e40; omega
                          have hR : opR t.data.toList br sq = .tok 6 1 br sq := (opR_one HOP.out (HA.out.trans hN)).trans rfl
                          clear hN
                          have HR := Lib.hid hR
                          clear hR
                          go_wp2_with fail
                          refine (lex_put w2 base p s at' 6 1 _ _ rfl rfl br sq v ts hs (by omega) (by omega) HZ2.out HO2.out hlen hbp).mono ?_
                          intro e w5 hp
                          have h0 := hp.1
                          subst h0
                          have HQ := Lib.hid (TokPost.put (br := br) (sq := sq) HR.out HB2.out hp)
                          clear hp
                          go_wp2_with fail
                          go_ret
                          exact HQ.out
                      · have hz4 := Blk.set_ HZ2.out 3 (.bool false)
                        have hz3 : ZAt (w2.setCell ⟨p, 3, none⟩ (.bool false)) p s at' br false v := by simpa [ZAt] using hz4
                        have ho3 := own_setBlk (i := 3) HO2.out HZ2.out (by decide) (.bool false)
                        have hb3 := HB2.out.setCell (p := ⟨p, 3, none⟩) hbp (.bool false)
                        have HZ3 := Lib.hid hz3
                        have HO3 := Lib.hid ho3
                        have HB3 := Lib.hid hb3
                        clear hz4 hz3 ho3 hb3
                        have hN : t[0].toNat = 93 := by have := eqT e93; omega
                        have hR : opR t.data.toList br sq = .tok 6 1 br false := (opR_one HOP.out (HA.out.trans hN)).trans rfl
                        clear hN
                        have HR := Lib.hid hR
                        clear hR
                        go_wp2_with fail
                        refine (lex_put _ base p s at' 6 1 _ _ rfl rfl br false v ts hs (by omega) (by omega) HZ3.out HO3.out hlen hbp).mono ?_
                        intro e w5 hp
                        have h0 := hp.1
                        subst h0
                        have HQ := Lib.hid (TokPost.put (br := br) (sq := sq) HR.out HB3.out hp)
                        clear hp
                        go_wp2_with fail
                        go_ret
                        exact HQ.out
                    · have hz4 := Blk.set_ HZ2.out 3 (.bool true)
                      have hz3 : ZAt (w2.setCell ⟨p, 3, none⟩ (.bool true)) p s at' br true v := by simpa [ZAt] using hz4
                      have ho3 := own_setBlk (i := 3) HO2.out HZ2.out (by decide) (.bool true)
                      have hb3 := HB2.out.setCell (p := ⟨p, 3, none⟩) hbp (.bool true)
                      have HZ3 := Lib.hid hz3
                      have HO3 := Lib.hid ho3
                      have HB3 := Lib.hid hb3
                      clear hz4 hz3 ho3 hb3
                      have hN : t[0].toNat = 91 := by have := eqT e91; omega
                      have hR : opR t.data.toList br sq = .tok 6 1 br true := (opR_one HOP.out (HA.out.trans hN)).trans rfl
                      clear hN
                      have HR := Lib.hid hR
                      clear hR
                      go_wp2_with fail
                      refine (lex_put _ base p s at' 6 1 _ _ rfl rfl br true v ts hs (by omega) (by omega) HZ3.out HO3.out hlen hbp).mono ?_
                      intro e w5 hp
                      have h0 := hp.1
                      subst h0
                      have HQ := Lib.hid (TokPost.put (br := br) (sq := sq) HR.out HB3.out hp)
                      clear hp
                      go_wp2_with fail
                      go_ret
                      exact HQ.out
                  · have hz4 := Blk.set_ HZ2.out 2 (.bool false)
                    have hz3 : ZAt (w2.setCell ⟨p, 2, none⟩ (.bool false)) p s at' false sq v := by simpa [ZAt] using hz4
                    have ho3 := own_setBlk (i := 2) HO2.out HZ2.out (by decide) (.bool false)
                    have hb3 := HB2.out.setCell (p := ⟨p, 2, none⟩) hbp (.bool false)
                    have HZ3 := Lib.hid hz3
                    have HO3 := Lib.hid ho3
                    have HB3 := Lib.hid hb3
                    clear hz4 hz3 ho3 hb3
                    have hN : t[0].toNat = 125 := by have := eqT e125; omega
                    have hR : opR t.data.toList br sq = .tok 6 1 false sq := (opR_one HOP.out (HA.out.trans hN)).trans rfl
                    clear hN
                    have HR := Lib.hid hR
                    clear hR
                    go_wp2_with fail
                    refine (lex_put _ base p s at' 6 1 _ _ rfl rfl false sq v ts hs (by omega) (by omega) HZ3.out HO3.out hlen hbp).mono ?_
                    intro e w5 hp
                    have h0 := hp.1
                    subst h0
                    have HQ := Lib.hid (TokPost.put (br := br) (sq := sq) HR.out HB3.out hp)
                    clear hp
                    go_wp2_with fail
                    go_ret
                    exact HQ.out
                · have hz4 := Blk.set_ HZ2.out 2 (.bool true)
                  have hz3 : ZAt (w2.setCell ⟨p, 2, none⟩ (.bool true)) p s at' true sq v := by simpa [ZAt] using hz4
                  have ho3 := own_setBlk (i := 2) HO2.out HZ2.out (by decide) (.bool true)
                  have hb3 := HB2.out.setCell (p := ⟨p, 2, none⟩) hbp (.bool true)
                  have HZ3 := Lib.hid hz3
                  have HO3 := Lib.hid ho3
                  have HB3 := Lib.hid hb3
                  clear hz4 hz3 ho3 hb3
                  have hN : t[0].toNat = 123 := by have := eqT e123; omega
                  have hR : opR t.data.toList br sq = .tok 6 1 true sq := (opR_one HOP.out (HA.out.trans hN)).trans rfl
                  clear hN
                  have HR := Lib.hid hR
                  clear hR
                  go_wp2_with fail
                  refine (lex_put _ base p s at' 6 1 _ _ rfl rfl true sq v ts hs (by omega) (by omega) HZ3.out HO3.out hlen hbp).mono ?_
                  intro e w5 hp
                  have h0 := hp.1
                  subst h0
                  have HQ := Lib.hid (TokPost.put (br := br) (sq := sq) HR.out HB3.out hp)
                  clear hp
                  go_wp2_with fail
                  go_ret
                  exact HQ.out
              · have hR : opR t.data.toList br sq = .tok 6 2 br sq := opR_two (by rw [HOP2.out, beq_iff_eq.1 g5]; rfl)
                have HR := Lib.hid hR
                clear hR
                go_wp2_with fail
                refine (lex_put w2 base p s at' 6 2 _ _ rfl rfl br sq v ts hs (by omega) (by omega) HZ2.out HO2.out hlen hbp).mono ?_
                intro e w5 hp
                have h0 := hp.1
                subst h0
                have HQ := Lib.hid (TokPost.put (br := br) (sq := sq) HR.out HB2.out hp)
                clear hp
                go_wp2_with fail
                go_ret
                exact HQ.out
            · have hR : opR t.data.toList br sq = .tok 6 2 br sq := opR_two (by rw [HOP2.out, beq_iff_eq.1 g4]; rfl)
              have HR := Lib.hid hR
              clear hR
              go_wp2_with fail
              refine (lex_put w2 base p s at' 6 2 _ _ rfl rfl br sq v ts hs (by omega) (by omega) HZ2.out HO2.out hlen hbp).mono ?_
              intro e w5 hp
              have h0 := hp.1
              subst h0
              have HQ := Lib.hid (TokPost.put (br := br) (sq := sq) HR.out HB2.out hp)
              clear hp
              go_wp2_with fail
              go_ret
              exact HQ.out
          · have hR : opR t.data.toList br sq = .tok 6 2 br sq := opR_two (by rw [HOP2.out, beq_iff_eq.1 g3]; rfl)
            have HR := Lib.hid hR
            clear hR
            go_wp2_with fail
            refine (lex_put w2 base p s at' 6 2 _ _ rfl rfl br sq v ts hs (by omega) (by omega) HZ2.out HO2.out hlen hbp).mono ?_
            intro e w5 hp
            have h0 := hp.1
            subst h0
            have HQ := Lib.hid (TokPost.put (br := br) (sq := sq) HR.out HB2.out hp)
            clear hp
            go_wp2_with fail
            go_ret
            exact HQ.out
        · have hR : opR t.data.toList br sq = .tok 6 2 br sq := opR_two (by rw [HOP2.out, beq_iff_eq.1 g2]; rfl)
          have HR := Lib.hid hR
          clear hR
          go_wp2_with fail
          refine (lex_put w2 base p s at' 6 2 _ _ rfl rfl br sq v ts hs (by omega) (by omega) HZ2.out HO2.out hlen hbp).mono ?_
          intro e w5 hp
          have h0 := hp.1
          subst h0
          have HQ := Lib.hid (TokPost.put (br := br) (sq := sq) HR.out HB2.out hp)
          clear hp
          go_wp2_with fail
          go_ret
          exact HQ.out
      · have hR : opR t.data.toList br sq = .tok 6 2 br sq := opR_two (by rw [HOP2.out, beq_iff_eq.1 g1]; rfl)
        have HR := Lib.hid hR
        clear hR
        go_wp2_with fail
        refine (lex_put w2 base p s at' 6 2 _ _ rfl rfl br sq v ts hs (by omega) (by omega) HZ2.out HO2.out hlen hbp).mono ?_
        intro e w5 hp
        have h0 := hp.1
        subst h0
        have HQ := Lib.hid (TokPost.put (br := br) (sq := sq) HR.out HB2.out hp)
        clear hp
        go_wp2_with fail
        go_ret
        exact HQ.out
    · have hR : opR t.data.toList br sq = .tok 6 2 br sq := opR_two (by rw [HOP2.out, beq_iff_eq.1 g0]; rfl)
      have HR := Lib.hid hR
      clear hR
      go_wp2_with fail
      refine (lex_put w2 base p s at' 6 2 _ _ rfl rfl br sq v ts hs (by omega) (by omega) HZ2.out HO2.out hlen hbp).mono ?_
      intro e w5 hp
      have h0 := hp.1
      subst h0
      have HQ := Lib.hid (TokPost.put (br := br) (sq := sq) HR.out HB2.out hp)
      clear hp
      go_wp2_with fail
      go_ret
      exact HQ.out
  · have hop : op2 t.data.toList = false := by rw [op2, len_data, decide_eq_false h1, Bool.false_and]
    have HOP := Lib.hid hop
    clear hop
    go_upto_region 13 with fail
    cases e123 : ((t[0].toNat : Int) == 123)
    · cases e125 : ((t[0].toNat : Int) == 125)
      · cases e91 : ((t[0].toNat : Int) == 91)
        · cases e93 : ((t[0].toNat : Int) == 93)
          · cases e40 : ((t[0].toNat : Int) == 40)
            · cases e41 : ((t[0].toNat : Int) == 41)
              · cases e44 : ((t[0].toNat : Int) == 44)
                · cases e58 : ((t[0].toNat : Int) == 58)
                  · cases e61 : ((t[0].toNat : Int) == 61)
                    · cases e60 : ((t[0].toNat : Int) == 60)
                      · cases e62 : ((t[0].toNat : Int) == 62)
                        · cases e43 : ((t[0].toNat : Int) == 43)
                          · cases e45 : ((t[0].toNat : Int) == 45)
                            · cases e42 : ((t[0].toNat : Int) == 42)
                              · cases e47 : ((t[0].toNat : Int) == 47)
                                · cases e37 : ((t[0].toNat : Int) == 37)
                                  · cases e94 : ((t[0].toNat : Int) == 94)
                                    · cases e64 : ((t[0].toNat : Int) == 64)
                                      · have hR : opR t.data.toList br sq = .bad 110 := by
                                          rw [opR_one HOP.out HA.out]
                                          have n123 := neT e123
                                          have n125 := neT e125
                                          have n91 := neT e91
                                          have n93 := neT e93
                                          have n40 := neT e40
                                          have n41 := neT e41
                                          have n44 := neT e44
                                          have n58 := neT e58
                                          have n61 := neT e61
                                          have n60 := neT e60
                                          have n62 := neT e62
                                          have n43 := neT e43
                                          have n45 := neT e45
                                          have n42 := neT e42
                                          have n47 := neT e47
                                          have n37 := neT e37
                                          have n94 := neT e94
                                          have n64 := neT e64
                                          rw [if_neg (by omega), if_neg (by omega), if_neg (by omega), if_neg (by omega), if_neg]
                                          simp [ops1]
                                          omega
                                        have HR := Lib.hid hR
                                        clear hR
                                        go_wp2_with fail
                                        go_ret
                                        rw [HR.out]
                                        exact ⟨rfl, v, HZ2.out, HO2.out, HB2.out⟩
                                      · have hN : t[0].toNat = 64 := by have := eqT e64; omega
                                        have hR : opR t.data.toList br sq = .tok 6 1 br sq := (opR_one HOP.out (HA.out.trans hN)).trans rfl
                                        clear hN
                                        have HR := Lib.hid hR
                                        clear hR
                                        go_wp2_with fail
                                        refine (lex_put w2 base p s at' 6 1 _ _ rfl rfl br sq v ts hs (by omega) (by omega) HZ2.out HO2.out hlen hbp).mono ?_
                                        intro e w5 hp
                                        have h0 := hp.1
                                        subst h0
                                        have HQ := Lib.hid (TokPost.put (br := br) (sq := sq) HR.out HB2.out hp)
                                        clear hp
                                        go_wp2_with fail
                                        go_ret
                                        exact HQ.out
                                    · have hN : t[0].toNat = 94 := by have := eqT e94; omega
                                      have hR : opR t.data.toList br sq = .tok 6 1 br sq := (opR_one HOP.out (HA.out.trans hN)).trans rfl
                                      clear hN
                                      have HR := Lib.hid hR
                                      clear hR
                                      go_wp2_with fail
                                      refine (lex_put w2 base p s at' 6 1 _ _ rfl rfl br sq v ts hs (by omega) (by omega) HZ2.out HO2.out hlen hbp).mono ?_
                                      intro e w5 hp
                                      have h0 := hp.1
                                      subst h0
                                      have HQ := Lib.hid (TokPost.put (br := br) (sq := sq) HR.out HB2.out hp)
                                      clear hp
                                      go_wp2_with fail
                                      go_ret
                                      exact HQ.out
                                  · have hN : t[0].toNat = 37 := by have := eqT e37; omega
                                    have hR : opR t.data.toList br sq = .tok 6 1 br sq := (opR_one HOP.out (HA.out.trans hN)).trans rfl
                                    clear hN
                                    have HR := Lib.hid hR
                                    clear hR
                                    go_wp2_with fail
                                    refine (lex_put w2 base p s at' 6 1 _ _ rfl rfl br sq v ts hs (by omega) (by omega) HZ2.out HO2.out hlen hbp).mono ?_
                                    intro e w5 hp
                                    have h0 := hp.1
                                    subst h0
                                    have HQ := Lib.hid (TokPost.put (br := br) (sq := sq) HR.out HB2.out hp)
                                    clear hp
                                    go_wp2_with fail
                                    go_ret
                                    exact HQ.out
                                · have hN : t[0].toNat = 47 := by have := eqT e47; omega
                                  have hR : opR t.data.toList br sq = .tok 6 1 br sq := (opR_one HOP.out (HA.out.trans hN)).trans rfl
                                  clear hN
                                  have HR := Lib.hid hR
                                  clear hR
                                  go_wp2_with fail
                                  refine (lex_put w2 base p s at' 6 1 _ _ rfl rfl br sq v ts hs (by omega) (by omega) HZ2.out HO2.out hlen hbp).mono ?_
                                  intro e w5 hp
                                  have h0 := hp.1
                                  subst h0
                                  have HQ := Lib.hid (TokPost.put (br := br) (sq := sq) HR.out HB2.out hp)
                                  clear hp
                                  go_wp2_with fail
                                  go_ret
                                  exact HQ.out
                              · have hN : t[0].toNat = 42 := by have := eqT e42; omega
                                have hR : opR t.data.toList br sq = .tok 6 1 br sq := (opR_one HOP.out (HA.out.trans hN)).trans rfl
                                clear hN
                                have HR := Lib.hid hR
                                clear hR
                                go_wp2_with fail
                                refine (lex_put w2 base p s at' 6 1 _ _ rfl rfl br sq v ts hs (by omega) (by omega) HZ2.out HO2.out hlen hbp).mono ?_
                                intro e w5 hp
                                have h0 := hp.1
                                subst h0
                                have HQ := Lib.hid (TokPost.put (br := br) (sq := sq) HR.out HB2.out hp)
                                clear hp
                                go_wp2_with fail
                                go_ret
                                exact HQ.out
                            · have hN : t[0].toNat = 45 := by have := eqT e45; omega
                              have hR : opR t.data.toList br sq = .tok 6 1 br sq := (opR_one HOP.out (HA.out.trans hN)).trans rfl
                              clear hN
                              have HR := Lib.hid hR
                              clear hR
                              go_wp2_with fail
                              refine (lex_put w2 base p s at' 6 1 _ _ rfl rfl br sq v ts hs (by omega) (by omega) HZ2.out HO2.out hlen hbp).mono ?_
                              intro e w5 hp
                              have h0 := hp.1
                              subst h0
                              have HQ := Lib.hid (TokPost.put (br := br) (sq := sq) HR.out HB2.out hp)
                              clear hp
                              go_wp2_with fail
                              go_ret
                              exact HQ.out
                          · have hN : t[0].toNat = 43 := by have := eqT e43; omega
                            have hR : opR t.data.toList br sq = .tok 6 1 br sq := (opR_one HOP.out (HA.out.trans hN)).trans rfl
                            clear hN
                            have HR := Lib.hid hR
                            clear hR
                            go_wp2_with fail
                            refine (lex_put w2 base p s at' 6 1 _ _ rfl rfl br sq v ts hs (by omega) (by omega) HZ2.out HO2.out hlen hbp).mono ?_
                            intro e w5 hp
                            have h0 := hp.1
                            subst h0
                            have HQ := Lib.hid (TokPost.put (br := br) (sq := sq) HR.out HB2.out hp)
                            clear hp
                            go_wp2_with fail
                            go_ret
                            exact HQ.out
                        · have hN : t[0].toNat = 62 := by have := eqT e62; omega
                          have hR : opR t.data.toList br sq = .tok 6 1 br sq := (opR_one HOP.out (HA.out.trans hN)).trans rfl
                          clear hN
                          have HR := Lib.hid hR
                          clear hR
                          go_wp2_with fail
                          refine (lex_put w2 base p s at' 6 1 _ _ rfl rfl br sq v ts hs (by omega) (by omega) HZ2.out HO2.out hlen hbp).mono ?_
                          intro e w5 hp
                          have h0 := hp.1
                          subst h0
                          have HQ := Lib.hid (TokPost.put (br := br) (sq := sq) HR.out HB2.out hp)
                          clear hp
                          go_wp2_with fail
                          go_ret
                          exact HQ.out
                      · have hN : t[0].toNat = 60 := by have := eqT e60; omega
                        have hR : opR t.data.toList br sq = .tok 6 1 br sq := (opR_one HOP.out (HA.out.trans hN)).trans rfl
                        clear hN
                        have HR := Lib.hid hR
                        clear hR
                        go_wp2_with fail
                        refine (lex_put w2 base p s at' 6 1 _ _ rfl rfl br sq v ts hs (by omega) (by omega) HZ2.out HO2.out hlen hbp).mono ?_
                        intro e w5 hp
                        have h0 := hp.1
                        subst h0
                        have HQ := Lib.hid (TokPost.put (br := br) (sq := sq) HR.out HB2.out hp)
                        clear hp
                        go_wp2_with fail
                        go_ret
                        exact HQ.out
                    · have hN : t[0].toNat = 61 := by have := eqT e61; omega
                      have hR : opR t.data.toList br sq = .tok 6 1 br sq := (opR_one HOP.out (HA.out.trans hN)).trans rfl
                      clear hN
                      have HR := Lib.hid hR
                      clear hR
                      go_wp2_with fail
                      refine (lex_put w2 base p s at' 6 1 _ _ rfl rfl br sq v ts hs (by omega) (by omega) HZ2.out HO2.out hlen hbp).mono ?_
                      intro e w5 hp
                      have h0 := hp.1
                      subst h0
                      have HQ := Lib.hid (TokPost.put (br := br) (sq := sq) HR.out HB2.out hp)
                      clear hp
                      go_wp2_with fail
                      go_ret
                      exact HQ.out
                  · have hN : t[0].toNat = 58 := by have := eqT e58; omega
                    have hR : opR t.data.toList br sq = .tok 6 1 br sq := (opR_one HOP.out (HA.out.trans hN)).trans rfl
                    clear hN
                    have HR := Lib.hid hR
                    clear hR
                    go_wp2_with fail
                    refine (lex_put w2 base p s at' 6 1 _ _ rfl rfl br sq v ts hs (by omega) (by omega) HZ2.out HO2.out hlen hbp).mono ?_
                    intro e w5 hp
                    have h0 := hp.1
                    subst h0
                    have HQ := Lib.hid (TokPost.put (br := br) (sq := sq) HR.out HB2.out hp)
                    clear hp
                    go_wp2_with fail
                    go_ret
                    exact HQ.out
                · have hN : t[0].toNat = 44 := by have := eqT e44; omega
                  have hR : opR t.data.toList br sq = .tok 6 1 br sq := (opR_one HOP.out (HA.out.trans hN)).trans rfl
                  clear hN
                  have HR := Lib.hid hR
                  clear hR
                  go_wp2_with fail
                  refine (lex_put w2 base p s at' 6 1 _ _ rfl rfl br sq v ts hs (by omega) (by omega) HZ2.out HO2.out hlen hbp).mono ?_
                  intro e w5 hp
                  have h0 := hp.1
                  subst h0
                  have HQ := Lib.hid (TokPost.put (br := br) (sq := sq) HR.out HB2.out hp)
                  clear hp
                  go_wp2_with fail
                  go_ret
                  exact HQ.out
              · have hN : t[0].toNat = 41 := by have := eqT e41; omega
                have hR : opR t.data.toList br sq = .tok 6 1 br sq := (opR_one HOP.out (HA.out.trans hN)).trans rfl
                clear hN
                have HR := Lib.hid hR
                clear hR
                go_wp2_with fail
                refine (lex_put w2 base p s at' 6 1 _ _ rfl rfl br sq v ts hs (by omega) (by omega) HZ2.out HO2.out hlen hbp).mono ?_
                intro e w5 hp
                have h0 := hp.1
                subst h0
                have HQ := Lib.hid (TokPost.put (br := br) (sq := sq) HR.out HB2.out hp)
                clear hp
                go_wp2_with fail
                go_ret
                exact HQ.out
            · have hN : t[0].toNat = 40 := by have := eqT e40; omega
              have hR : opR t.data.toList br sq = .tok 6 1 br sq := (opR_one HOP.out (HA.out.trans hN)).trans rfl
              clear hN
              have HR := Lib.hid hR
              clear hR
              go_wp2_with fail
              refine (lex_put w2 base p s at' 6 1 _ _ rfl rfl br sq v ts hs (by omega) (by omega) HZ2.out HO2.out hlen hbp).mono ?_
              intro e w5 hp
              have h0 := hp.1
              subst h0
              have HQ := Lib.hid (TokPost.put (br := br) (sq := sq) HR.out HB2.out hp)
              clear hp
              go_wp2_with fail
              go_ret
              exact HQ.out
          · have hz4 := Blk.set_ HZ2.out 3 (.bool false)
            have hz3 : ZAt (w2.setCell ⟨p, 3, none⟩ (.bool false)) p s at' br false v := by simpa [ZAt] using hz4
            have ho3 := own_setBlk (i := 3) HO2.out HZ2.out (by decide) (.bool false)
            have hb3 := HB2.out.setCell (p := ⟨p, 3, none⟩) hbp (.bool false)
            have HZ3 := Lib.hid hz3
            have HO3 := Lib.hid ho3
            have HB3 := Lib.hid hb3
            clear hz4 hz3 ho3 hb3
            have hN : t[0].toNat = 93 := by have := eqT e93; omega
            have hR : opR t.data.toList br sq = .tok 6 1 br false := (opR_one HOP.out (HA.out.trans hN)).trans rfl
            clear hN
            have HR := Lib.hid hR
            clear hR
            go_wp2_with fail
            refine (lex_put _ base p s at' 6 1 _ _ rfl rfl br false v ts hs (by omega) (by omega) HZ3.out HO3.out hlen hbp).mono ?_
            intro e w5 hp
            have h0 := hp.1
            subst h0
            have HQ := Lib.hid (TokPost.put (br := br) (sq := sq) HR.out HB3.out hp)
            clear hp
            go_wp2_with fail
            go_ret
            exact HQ.out
        · have hz4 := Blk.set_ HZ2.out 3 (.bool true)
          have hz3 : ZAt (w2.setCell ⟨p, 3, none⟩ (.bool true)) p s at' br true v := by simpa [ZAt] using hz4
          have ho3 := own_setBlk (i := 3) HO2.out HZ2.out (by decide) (.bool true)
          have hb3 := HB2.out.setCell (p := ⟨p, 3, none⟩) hbp (.bool true)
          have HZ3 := Lib.hid hz3
          have HO3 := Lib.hid ho3
          have HB3 := Lib.hid hb3
          clear hz4 hz3 ho3 hb3
          have hN : t[0].toNat = 91 := by have := eqT e91; omega
          have hR : opR t.data.toList br sq = .tok 6 1 br true := (opR_one HOP.out (HA.out.trans hN)).trans rfl
          clear hN
          have HR := Lib.hid hR
          clear hR
          go_wp2_with fail
          refine (lex_put _ base p s at' 6 1 _ _ rfl rfl br true v ts hs (by omega) (by omega) HZ3.out HO3.out hlen hbp).mono ?_
          intro e w5 hp
          have h0 := hp.1
          subst h0
          have HQ := Lib.hid (TokPost.put (br := br) (sq := sq) HR.out HB3.out hp)
          clear hp
          go_wp2_with fail
          go_ret
          exact HQ.out
      · have hz4 := Blk.set_ HZ2.out 2 (.bool false)
        have hz3 : ZAt (w2.setCell ⟨p, 2, none⟩ (.bool false)) p s at' false sq v := by simpa [ZAt] using hz4
        have ho3 := own_setBlk (i := 2) HO2.out HZ2.out (by decide) (.bool false)
        have hb3 := HB2.out.setCell (p := ⟨p, 2, none⟩) hbp (.bool false)
        have HZ3 := Lib.hid hz3
        have HO3 := Lib.hid ho3
        have HB3 := Lib.hid hb3
        clear hz4 hz3 ho3 hb3
        have hN : t[0].toNat = 125 := by have := eqT e125; omega
        have hR : opR t.data.toList br sq = .tok 6 1 false sq := (opR_one HOP.out (HA.out.trans hN)).trans rfl
        clear hN
        have HR := Lib.hid hR
        clear hR
        go_wp2_with fail
        refine (lex_put _ base p s at' 6 1 _ _ rfl rfl false sq v ts hs (by omega) (by omega) HZ3.out HO3.out hlen hbp).mono ?_
        intro e w5 hp
        have h0 := hp.1
        subst h0
        have HQ := Lib.hid (TokPost.put (br := br) (sq := sq) HR.out HB3.out hp)
        clear hp
        go_wp2_with fail
        go_ret
        exact HQ.out
    · have hz4 := Blk.set_ HZ2.out 2 (.bool true)
      have hz3 : ZAt (w2.setCell ⟨p, 2, none⟩ (.bool true)) p s at' true sq v := by simpa [ZAt] using hz4
      have ho3 := own_setBlk (i := 2) HO2.out HZ2.out (by decide) (.bool true)
      have hb3 := HB2.out.setCell (p := ⟨p, 2, none⟩) hbp (.bool true)
      have HZ3 := Lib.hid hz3
      have HO3 := Lib.hid ho3
      have HB3 := Lib.hid hb3
      clear hz4 hz3 ho3 hb3
      have hN : t[0].toNat = 123 := by have := eqT e123; omega
      have hR : opR t.data.toList br sq = .tok 6 1 true sq := (opR_one HOP.out (HA.out.trans hN)).trans rfl
      clear hN
      have HR := Lib.hid hR
      clear hR
      go_wp2_with fail
      refine (lex_put _ base p s at' 6 1 _ _ rfl rfl true sq v ts hs (by omega) (by omega) HZ3.out HO3.out hlen hbp).mono ?_
      intro e w5 hp
      have h0 := hp.1
      subst h0
      have HQ := Lib.hid (TokPost.put (br := br) (sq := sq) HR.out HB3.out hp)
      clear hp
      go_wp2_with fail
      go_ret
      exact HQ.out
end Go.Proofs.YtpkeonafcldkhaaGreatDoor
