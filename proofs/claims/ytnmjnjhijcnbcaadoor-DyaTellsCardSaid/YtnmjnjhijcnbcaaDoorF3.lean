/-
  The walk of head of layer 2 (its steps are printed by gen2.py).
-/
import Derived.Test.YtnmjnjhijcnbcaaDoorF0
import Derived.Deep.RegionHeld3
import Derived.Deep.DeepCutAuto
set_option linter.unusedVariables false
set_option linter.unusedSimpArgs false
namespace Go.Proofs.YtnmjnjhijcnbcaaDoor.F3
open Go Go.RowKit Go.Proofs.YtnmjnjhijcnbcaaDoor Go.Proofs.YtnmjnjhijcnbcaaDoor.Ow Go.Proofs.YtnmjnjhijcnbcaaDoor.Pl Go.Proofs.YtnmjnjhijcnbcaaDoor.Dp Go.Proofs.YtnmjnjhijcnbcaaDoor.Dt Go.Proofs.YtnmjnjhijcnbcaaDoor.D3 Go.Proofs.YtnmjnjhijcnbcaaDoor.E7 Go.Proofs.YtnmjnjhijcnbcaaDoor.F1

theorem dv_set3 {w : World} {A : Option Addr} {c : Nat} {v : Int} {L U b : Nat} {x0 : Bool} (h : Dv w A c v L U) (K : Blk w b 24 [.bool x0, .slice none 0 0, .int .i64 0]) (v0 v1 v2 : Value) :
    Dv (((w.setCell ⟨b, 0, none⟩ v0).setCell ⟨b, 1, none⟩ v1).setCell ⟨b, 2, none⟩ v2) A c v L U := by
  refine ⟨h.cap, ?_, h.wd⟩
  by_cases h0 : dm v = 0
  · rw [h0, digs_zero]; exact Rd.nil _ _
  · exact D2.rd_set3 h.rd (fun ad2 he => by subst he; exact D2.rd_far K (fun z => by simp) h.rd h0) _ _ _
theorem bel_set3 {w w2 : World} {b : Nat} (g : Bel w w2) (hb : w.heap.size ≤ b) (v0 v1 v2 : Value) : Bel w (((w2.setCell ⟨b, 0, none⟩ v0).setCell ⟨b, 1, none⟩ v1).setCell ⟨b, 2, none⟩ v2) :=
  ⟨((g.out.setCell (p := ⟨b, 0, none⟩) hb v0).setCell (p := ⟨b, 1, none⟩) hb v1).setCell (p := ⟨b, 2, none⟩) hb v2⟩
set_option maxRecDepth 100000 in
set_option maxHeartbeats 4000000 in
theorem head_calls (w : World) (T : Tab w) : Calls Tryd.prog 15 #[] w (Tells w (.bool true)) := by
  have TT := Ho.mk T
  have g0 := Bel.refl w
  clear T
  go_enter Tryd.func15, Tryd.ntmps15
  go_wp2_with fail
  (with_reducible refine (F1.rNOf 20 (x := 20) (b := 5) rfl (by decide) (by decide)).mono ?_); rintro e w1 ⟨A1, c1, rfl, n1, b1⟩
  go_wp2_with fail
  (with_reducible refine (F1.dMake (TT.out.bel (g0.trans ((Bel.refl _).trans b1))) n1 true (-3) (L := 10) (U := 10) (by decide) (by decide) (by decide) (by decide) (by decide)).mono ?_); rintro e w2 ⟨A2, c2, rfl, n2, b2⟩
  have KB1 := Ho.mk (Blk.new w2 [.bool (dneg (sc true 20 (-3))), .slice A2 (digs (dm (sc true 20 (-3)))).length c2, .int .i64 (de (sc true 20 (-3)))] 24)

  have KA := Ho.mk (Blk.new w2 [.bool (dneg (sc true 20 (-3))), .slice A2 (digs (dm (sc true 20 (-3)))).length c2, .int .i64 (de (sc true 20 (-3)))] 24)
  have HN := Ho.mk (n2.bel ((Bel.refl w2).alloc (.cells #[.bool (dneg (sc true 20 (-3))), .slice A2 (digs (dm (sc true 20 (-3)))).length c2, .int .i64 (de (sc true 20 (-3)))] 24)))
  have HG := Ho.mk (g0.trans (((((Bel.refl _).trans b1).trans b2)).alloc (.cells #[.bool (dneg (sc true 20 (-3))), .slice A2 (digs (dm (sc true 20 (-3)))).length c2, .int .i64 (de (sc true 20 (-3)))] 24)))
  go_upto_region 2 with fail
  have hwx : w2.alloc (.cells #[.bool (dneg (sc true 20 (-3))), .slice A2 (digs (dm (sc true 20 (-3)))).length c2, .int .i64 (de (sc true 20 (-3)))] 24) = w2.alloc (.cells #[.bool (dneg (sc true 20 (-3))), .slice A2 (digs (dm (sc true 20 (-3)))).length c2, .int .i64 (de (sc true 20 (-3)))] 24) := rfl
  generalize w2.alloc (.cells #[.bool (dneg (sc true 20 (-3))), .slice A2 (digs (dm (sc true 20 (-3)))).length c2, .int .i64 (de (sc true 20 (-3)))] 24) = wx at *
  clear hwx KB1
  generalize w2.heap.size = pa at *
  clear n2 b1 b2
  go_cut [2] (fun s2 wy => ∃ (p : Nat) (A : Option Addr) (c : Nat), s2 = .pointer (some ⟨p, 0, none⟩) ∧ Ho (Blk wy p 24 [.bool (dneg ((sc true 20 (-3)) + 3 * 2 ^ K)), .slice A (digs (dm ((sc true 20 (-3)) + 3 * 2 ^ K))).length c, .int .i64 (de ((sc true 20 (-3)) + 3 * 2 ^ K))]) ∧ Ho (Dv wy A c ((sc true 20 (-3)) + 3 * 2 ^ K) 10 75) ∧ Ho (Bel wx wy))
  case first =>
    have ya0 := KA.out.cell (i := 0) rfl
    have ya1 := KA.out.cell (i := 1) rfl
    have ya2 := KA.out.cell (i := 2) rfl
    have ea0 := World.new_ne wx _ ya0
    have ea1 := World.new_ne wx _ ya1
    have ea2 := World.new_ne wx _ ya2
    have qx1 : pa ≠ wx.heap.size := by have := KA.out.lt; omega
    have qx2 : ¬ (wx.heap.size = pa) := fun q => qx1 q.symm
    have OF := Ho.mk (fun (W : World) (g : Bel wx W) => F1.dOf (TT.out.bel (HG.out.trans g)) 3 (by omega) (by omega))
    have AD := Ho.mk (fun (A : Option Addr) (c : Nat) (W : World) (g : Bel wx W) (k : Dv W A c (3 * 2 ^ K) 0 64) => F1.dAdd (TT.out.bel (HG.out.trans g)) (HN.out.bel g) k (by omega) (by omega))
    go_region_held3 (fun w' => w'.cell? ⟨pa, 0, none⟩ = some (.bool (dneg (sc true 20 (-3)))) ∧ w'.cell? ⟨pa, 1, none⟩ = some (.slice A2 (digs (dm (sc true 20 (-3)))).length c2) ∧ w'.cell? ⟨pa, 2, none⟩ = some (.int .i64 (de (sc true 20 (-3)))))
      (first
        | go_keep
        | (go_split_ands
           refine ⟨?_, ?_, ?_⟩ <;> (apply Bel.cell (by assumption); assumption))
        | (all_goals (go_split_ands; apply Bel.cell (by assumption); assumption))
        | (go_split_ands
           refine ⟨?_, ?_, ?_⟩ <;> go_keep)
        | (go_split_ands
           refine ⟨?_, ?_, ?_⟩ <;> (refine Bel.cell ((Bel.refl _).alloc _) ?_; assumption))
        | (all_goals (go_split_ands; refine Bel.cell ((Bel.refl _).alloc _) ?_; assumption)))
      (first
        | (go_at_call 34; (with_reducible refine (OF.out _ (by first | exact (Bel.refl _).drew | exact ((Bel.refl _).alloc _).drew | exact ((Bel.refl _).drew).alloc _)).mono ?_); rintro e wa ⟨A8, c8, rfl, n8, b8⟩
           have gba : Bel wx wa := by first | exact (Bel.refl _).drew.trans b8 | exact ((Bel.refl _).alloc _).drew.trans b8 | exact (((Bel.refl _).drew).alloc _).trans b8
           have qa1 : pa ≠ wa.heap.size := by have := KA.out.lt; have := gba.size; omega
           have qa2 : ¬ (wa.heap.size = pa) := fun q => qa1 q.symm
           try (have KQ : Blk wa wx.heap.size 24 [.bool false, .slice none 0 0, .int .i64 0] := by first | exact (Blk.new wx _ _).bel ((Bel.refl _).drew.trans b8) | exact (Blk.new wx.drew _ _).bel b8))
        | (go_at_call 20; (with_reducible refine (AD.out _ _ _ (by first | exact (Bel.refl _).drew.trans b8 | exact ((Bel.refl _).alloc _).drew.trans b8 | exact (((Bel.refl _).drew).alloc _).trans b8 | exact ((Bel.refl _).drew.trans b8).alloc _) (by first | exact n8 | exact n8.bel ((Bel.refl _).alloc _))).mono ?_); rintro e wb ⟨A9, c9, rfl, n9, b9⟩
           have gb : Bel wx wb := by first | exact (Bel.refl _).drew.trans (b8.trans b9) | exact ((Bel.refl _).alloc _).drew.trans (b8.trans b9) | exact (((Bel.refl _).drew).alloc _).trans (b8.trans b9) | exact ((Bel.refl _).drew.trans b8).alloc _ |>.trans b9
           have za0 := gb.cell ya0
           have za1 := gb.cell ya1
           have za2 := gb.cell ya2
           try (have KQ2 : Blk wb wx.heap.size 24 [.bool false, .slice none 0 0, .int .i64 0] := KQ.bel b9
                have kq0 := KQ2.cell (i := 0) rfl
                have kq1 := KQ2.cell (i := 1) rfl
                have kq2 := KQ2.cell (i := 2) rfl
                have kf0 := KQ2.free 0
                have kf1 := KQ2.free 1
                have kf2 := KQ2.free 2)
           try (have KQ3 : Blk wb wa.heap.size 24 [.bool false, .slice none 0 0, .int .i64 0] := (Blk.new wa _ _).bel b9
                have kq0 := KQ3.cell (i := 0) rfl
                have kq1 := KQ3.cell (i := 1) rfl
                have kq2 := KQ3.cell (i := 2) rfl
                have kf0 := KQ3.free 0
                have kf1 := KQ3.free 1
                have kf2 := KQ3.free 2)))
    all_goals (go_wp2_with fail; go_meet)
    all_goals (first
      | exact ⟨_, A9, c9, rfl, ⟨((KQ2.set 0 _).set 1 _).set 2 _⟩, ⟨dv_set3 n9 KQ2 _ _ _⟩, ⟨bel_set3 gb (Nat.le_refl _) _ _ _⟩⟩
      | exact ⟨_, A9, c9, rfl, ⟨((KQ3.set 0 _).set 1 _).set 2 _⟩, ⟨dv_set3 n9 KQ3 _ _ _⟩, ⟨bel_set3 gb gba.size _ _ _⟩⟩
      | exact ⟨_, A9, c9, rfl, ⟨Blk.new _ _ _⟩, ⟨n9.bel ((Bel.refl _).alloc _)⟩, ⟨gb.alloc _⟩⟩)
  obtain ⟨pb, A9, c9, rfl, KB, HN9, HG9⟩ := hcut
  have KAc := Ho.mk (KA.out.bel HG9.out)
  have n0' := HN.out.bel HG9.out
  have n9' := HN9.out
  have gw := HG.out.trans HG9.out
  clear KA HN HN9 HG HG9
  have KBa_0 := Ho.mk (KAc.out)
  have yBa_0_0 := KBa_0.out.cell (i := 0) rfl
  have yBa_0_1 := KBa_0.out.cell (i := 1) rfl
  have yBa_0_2 := KBa_0.out.cell (i := 2) rfl
  go_wp2_with fail
  (with_reducible refine (F0.sameLit1 (n0'.bel ((Bel.refl _).alloc _)) (F0.litRd _ 5) (x := 5) rfl (by decide) (by decide) (by unfold K; omega) F0.h_a).mono ?_); rintro e w1 ⟨rfl, b1⟩
  clear yBa_0_0 yBa_0_1 yBa_0_2
  have KBb_1 := Ho.mk ((KB.out.bel (((Bel.refl _).alloc _).trans b1)))
  have yBb_1_0 := KBb_1.out.cell (i := 0) rfl
  have yBb_1_1 := KBb_1.out.cell (i := 1) rfl
  have yBb_1_2 := KBb_1.out.cell (i := 2) rfl
  go_wp2_with fail
  (with_reducible refine (F0.sameLit1 (n9'.bel ((((Bel.refl _).alloc _).trans b1).alloc _)) (F0.litRd _ 1) (x := 1) rfl (by decide) (by decide) (by unfold K; omega) F0.h_b).mono ?_); rintro e w2 ⟨rfl, b2⟩
  clear yBb_1_0 yBb_1_1 yBb_1_2
  have KBa_2 := Ho.mk ((KBa_0.out.bel (((((Bel.refl _).alloc _).trans b1).alloc _).trans b2)))
  have yBa_2_0 := KBa_2.out.cell (i := 0) rfl
  have yBa_2_1 := KBa_2.out.cell (i := 1) rfl
  have yBa_2_2 := KBa_2.out.cell (i := 2) rfl
  have KBb_2 := Ho.mk ((KBb_1.out.bel (((Bel.refl _).alloc _).trans b2)))
  have yBb_2_0 := KBb_2.out.cell (i := 0) rfl
  have yBb_2_1 := KBb_2.out.cell (i := 1) rfl
  have yBb_2_2 := KBb_2.out.cell (i := 2) rfl
  go_wp2_with fail
  (with_reducible refine (F1.dMul (TT.out.bel (gw.trans (((((Bel.refl _).alloc _).trans b1).alloc _).trans b2))) (n0'.bel (((((Bel.refl _).alloc _).trans b1).alloc _).trans b2)) (n9'.bel (((((Bel.refl _).alloc _).trans b1).alloc _).trans b2)) (by omega) (by omega)).mono ?_); rintro e w3 ⟨A3, c3, rfl, n3, b3⟩
  clear yBa_2_0 yBa_2_1 yBa_2_2 yBb_2_0 yBb_2_1 yBb_2_2
  go_wp2_with fail
  (with_reducible refine (F0.sameLit1 (n3.bel ((Bel.refl _).alloc _)) (F0.litRd _ 5) (x := 5) rfl (by decide) (by decide) (by unfold K; omega) F0.h_ab).mono ?_); rintro e w4 ⟨rfl, b4⟩
  have KBa_4 := Ho.mk ((KBa_2.out.bel ((((Bel.refl _).trans b3).alloc _).trans b4)))
  have yBa_4_0 := KBa_4.out.cell (i := 0) rfl
  have yBa_4_1 := KBa_4.out.cell (i := 1) rfl
  have yBa_4_2 := KBa_4.out.cell (i := 2) rfl
  have KBb_4 := Ho.mk ((KBb_2.out.bel ((((Bel.refl _).trans b3).alloc _).trans b4)))
  have yBb_4_0 := KBb_4.out.cell (i := 0) rfl
  have yBb_4_1 := KBb_4.out.cell (i := 1) rfl
  have yBb_4_2 := KBb_4.out.cell (i := 2) rfl
  go_wp2_with fail
  (with_reducible refine (F1.dCmp (TT.out.bel (gw.trans ((((((((Bel.refl _).alloc _).trans b1).alloc _).trans b2).trans b3).alloc _).trans b4))) (n0'.bel ((((((((Bel.refl _).alloc _).trans b1).alloc _).trans b2).trans b3).alloc _).trans b4)) (n9'.bel ((((((((Bel.refl _).alloc _).trans b1).alloc _).trans b2).trans b3).alloc _).trans b4)) (by omega) (by omega) F0.h_cmp).mono ?_); rintro e w5 ⟨rfl, b5⟩
  clear yBa_4_0 yBa_4_1 yBa_4_2 yBb_4_0 yBb_4_1 yBb_4_2
  have KBa_5 := Ho.mk ((KBa_4.out.bel ((Bel.refl _).trans b5)))
  have yBa_5_0 := KBa_5.out.cell (i := 0) rfl
  have yBa_5_1 := KBa_5.out.cell (i := 1) rfl
  have yBa_5_2 := KBa_5.out.cell (i := 2) rfl
  go_wp2_with fail
  (with_reducible refine (F1.dSign (n0'.bel (((((((((Bel.refl _).alloc _).trans b1).alloc _).trans b2).trans b3).alloc _).trans b4).trans b5)) F0.h_sgn).mono ?_); rintro e w6 ⟨rfl, b6⟩
  clear yBa_5_0 yBa_5_1 yBa_5_2
  go_wp2_with fail
  (with_reducible refine (F1.dSign0).mono ?_); rintro e w7 ⟨rfl, b7⟩
  have KBa_7 := Ho.mk ((KBa_5.out.bel (((Bel.refl _).trans b6).trans b7)))
  have yBa_7_0 := KBa_7.out.cell (i := 0) rfl
  have yBa_7_1 := KBa_7.out.cell (i := 1) rfl
  have yBa_7_2 := KBa_7.out.cell (i := 2) rfl
  go_wp2_with fail
  (with_reducible refine (F1.dFlip (TT.out.bel (gw.trans (((((((((((Bel.refl _).alloc _).trans b1).alloc _).trans b2).trans b3).alloc _).trans b4).trans b5).trans b6).trans b7))) (n0'.bel (((((((((((Bel.refl _).alloc _).trans b1).alloc _).trans b2).trans b3).alloc _).trans b4).trans b5).trans b6).trans b7)) (by omega)).mono ?_); rintro e w8 ⟨A8, c8, rfl, n8, b8⟩
  clear yBa_7_0 yBa_7_1 yBa_7_2
  go_wp2_with fail
  (with_reducible refine (F0.sameLit1 (n8.bel ((Bel.refl _).alloc _)) (F0.litRd _ 5) (x := 5) rfl (by decide) (by decide) (by unfold K; omega) F0.h_flip).mono ?_); rintro e w9 ⟨rfl, b9⟩
  have KBa_9 := Ho.mk ((KBa_7.out.bel ((((Bel.refl _).trans b8).alloc _).trans b9)))
  have yBa_9_0 := KBa_9.out.cell (i := 0) rfl
  have yBa_9_1 := KBa_9.out.cell (i := 1) rfl
  have yBa_9_2 := KBa_9.out.cell (i := 2) rfl
  go_wp2_with fail
  (with_reducible refine (F1.dShift (TT.out.bel (gw.trans ((((((((((((((Bel.refl _).alloc _).trans b1).alloc _).trans b2).trans b3).alloc _).trans b4).trans b5).trans b6).trans b7).trans b8).alloc _).trans b9))) (n0'.bel ((((((((((((((Bel.refl _).alloc _).trans b1).alloc _).trans b2).trans b3).alloc _).trans b4).trans b5).trans b6).trans b7).trans b8).alloc _).trans b9)) 2 2 (by omega) (by omega) (by omega) (by omega)).mono ?_); rintro e w10 ⟨A10, c10, rfl, n10, b10⟩
  clear yBa_9_0 yBa_9_1 yBa_9_2
  go_wp2_with fail
  (with_reducible refine (F0.sameLit1 (n10.bel ((Bel.refl _).alloc _)) (F0.litRd _ 5) (x := 5) rfl (by decide) (by decide) (by unfold K; omega) F0.h_shift).mono ?_); rintro e w11 ⟨rfl, b11⟩
  go_wp2_with fail
  (with_reducible refine (F1.dOf (TT.out.bel (gw.trans (((((((((((((((((Bel.refl _).alloc _).trans b1).alloc _).trans b2).trans b3).alloc _).trans b4).trans b5).trans b6).trans b7).trans b8).alloc _).trans b9).trans b10).alloc _).trans b11))) 5 (by omega) (by omega)).mono ?_); rintro e w12 ⟨A12, c12, rfl, n12, b12⟩
  go_wp2_with fail
  (with_reducible refine (F1.dCut (TT.out.bel (gw.trans ((((((((((((((((((Bel.refl _).alloc _).trans b1).alloc _).trans b2).trans b3).alloc _).trans b4).trans b5).trans b6).trans b7).trans b8).alloc _).trans b9).trans b10).alloc _).trans b11).trans b12))) n12 2 true (by omega) (by omega) (nn := 2) rfl).mono ?_); rintro e w13 ⟨A13, c13, rfl, n13, b13⟩
  go_wp2_with fail
  (with_reducible refine (F1.dOf (TT.out.bel (gw.trans (((((((((((((((((((Bel.refl _).alloc _).trans b1).alloc _).trans b2).trans b3).alloc _).trans b4).trans b5).trans b6).trans b7).trans b8).alloc _).trans b9).trans b10).alloc _).trans b11).trans b12).trans b13))) 6 (by omega) (by omega)).mono ?_); rintro e w14 ⟨A14, c14, rfl, n14, b14⟩
  go_wp2_with fail
  (with_reducible refine (F1.same (n13.bel ((Bel.refl _).trans b14)) n14 F0.h_cut1).mono ?_); rintro e w15 ⟨rfl, b15⟩
  go_wp2_with fail
  (with_reducible refine (F1.dOf (TT.out.bel (gw.trans (((((((((((((((((((((Bel.refl _).alloc _).trans b1).alloc _).trans b2).trans b3).alloc _).trans b4).trans b5).trans b6).trans b7).trans b8).alloc _).trans b9).trans b10).alloc _).trans b11).trans b12).trans b13).trans b14).trans b15))) 5 (by omega) (by omega)).mono ?_); rintro e w16 ⟨A16, c16, rfl, n16, b16⟩
  go_wp2_with fail
  (with_reducible refine (F1.dCut (TT.out.bel (gw.trans ((((((((((((((((((((((Bel.refl _).alloc _).trans b1).alloc _).trans b2).trans b3).alloc _).trans b4).trans b5).trans b6).trans b7).trans b8).alloc _).trans b9).trans b10).alloc _).trans b11).trans b12).trans b13).trans b14).trans b15).trans b16))) n16 2 false (by omega) (by omega) (nn := 2) rfl).mono ?_); rintro e w17 ⟨A17, c17, rfl, n17, b17⟩
  go_wp2_with fail
  (with_reducible refine (F1.dOf (TT.out.bel (gw.trans (((((((((((((((((((((((Bel.refl _).alloc _).trans b1).alloc _).trans b2).trans b3).alloc _).trans b4).trans b5).trans b6).trans b7).trans b8).alloc _).trans b9).trans b10).alloc _).trans b11).trans b12).trans b13).trans b14).trans b15).trans b16).trans b17))) 4 (by omega) (by omega)).mono ?_); rintro e w18 ⟨A18, c18, rfl, n18, b18⟩
  go_wp2_with fail
  (with_reducible refine (F1.same (n17.bel ((Bel.refl _).trans b18)) n18 F0.h_cut2).mono ?_); rintro e w19 ⟨rfl, b19⟩
  go_wp2_with fail
  (with_reducible refine (F1.dOf (TT.out.bel (gw.trans (((((((((((((((((((((((((Bel.refl _).alloc _).trans b1).alloc _).trans b2).trans b3).alloc _).trans b4).trans b5).trans b6).trans b7).trans b8).alloc _).trans b9).trans b10).alloc _).trans b11).trans b12).trans b13).trans b14).trans b15).trans b16).trans b17).trans b18).trans b19))) (-5) (by omega) (by omega)).mono ?_); rintro e w20 ⟨A20, c20, rfl, n20, b20⟩
  go_wp2_with fail
  (with_reducible refine (F1.dCut (TT.out.bel (gw.trans ((((((((((((((((((((((((((Bel.refl _).alloc _).trans b1).alloc _).trans b2).trans b3).alloc _).trans b4).trans b5).trans b6).trans b7).trans b8).alloc _).trans b9).trans b10).alloc _).trans b11).trans b12).trans b13).trans b14).trans b15).trans b16).trans b17).trans b18).trans b19).trans b20))) n20 2 true (by omega) (by omega) (nn := 2) rfl).mono ?_); rintro e w21 ⟨A21, c21, rfl, n21, b21⟩
  go_wp2_with fail
  (with_reducible refine (F1.dOf (TT.out.bel (gw.trans (((((((((((((((((((((((((((Bel.refl _).alloc _).trans b1).alloc _).trans b2).trans b3).alloc _).trans b4).trans b5).trans b6).trans b7).trans b8).alloc _).trans b9).trans b10).alloc _).trans b11).trans b12).trans b13).trans b14).trans b15).trans b16).trans b17).trans b18).trans b19).trans b20).trans b21))) (-4) (by omega) (by omega)).mono ?_); rintro e w22 ⟨A22, c22, rfl, n22, b22⟩
  go_wp2_with fail
  (with_reducible refine (F1.same (n21.bel ((Bel.refl _).trans b22)) n22 F0.h_cut3).mono ?_); rintro e w23 ⟨rfl, b23⟩
  have KBa_23 := Ho.mk ((KBa_9.out.bel ((((((((((((((((Bel.refl _).trans b10).alloc _).trans b11).trans b12).trans b13).trans b14).trans b15).trans b16).trans b17).trans b18).trans b19).trans b20).trans b21).trans b22).trans b23)))
  have yBa_23_0 := KBa_23.out.cell (i := 0) rfl
  have yBa_23_1 := KBa_23.out.cell (i := 1) rfl
  have yBa_23_2 := KBa_23.out.cell (i := 2) rfl
  go_wp2_with fail
  (with_reducible refine (F1.dRight (n0'.bel (((((((((((((((((((((((((((((Bel.refl _).alloc _).trans b1).alloc _).trans b2).trans b3).alloc _).trans b4).trans b5).trans b6).trans b7).trans b8).alloc _).trans b9).trans b10).alloc _).trans b11).trans b12).trans b13).trans b14).trans b15).trans b16).trans b17).trans b18).trans b19).trans b20).trans b21).trans b22).trans b23)) (by omega) (by omega) (by omega)).mono ?_); rintro e w24 ⟨rfl, b24⟩
  clear yBa_23_0 yBa_23_1 yBa_23_2
  go_wp2_with fail
  (with_reducible refine (F0.dRight1 false 2 0 (F0.litRd _ 2) (b := false) (by decide)).mono ?_); rintro e w25 ⟨rfl, b25⟩
  go_wp2_with fail
  (with_reducible refine (F0.dRight0 false 1 (b := false) (by decide)).mono ?_); rintro e w26 ⟨rfl, b26⟩
  go_wp2_with fail
  (with_reducible refine (F0.dOf0 (TT.out.bel (gw.trans (((((((((((((((((((((((((((((((((Bel.refl _).alloc _).trans b1).alloc _).trans b2).trans b3).alloc _).trans b4).trans b5).trans b6).trans b7).trans b8).alloc _).trans b9).trans b10).alloc _).trans b11).trans b12).trans b13).trans b14).trans b15).trans b16).trans b17).trans b18).trans b19).trans b20).trans b21).trans b22).trans b23).trans b24).alloc _).trans b25).trans b26)))).mono ?_); rintro e w27 ⟨A27, c27, rfl, n27, b27⟩
  go_wp2_with fail
  (with_reducible refine (F1.same0 n27 rfl).mono ?_); rintro e w28 ⟨rfl, b28⟩
  have HE := Ho.mk (gw.trans (((((((((((((((((((((((((((((((((((Bel.refl _).alloc _).trans b1).alloc _).trans b2).trans b3).alloc _).trans b4).trans b5).trans b6).trans b7).trans b8).alloc _).trans b9).trans b10).alloc _).trans b11).trans b12).trans b13).trans b14).trans b15).trans b16).trans b17).trans b18).trans b19).trans b20).trans b21).trans b22).trans b23).trans b24).alloc _).trans b25).trans b26).trans b27).trans b28))
  go_wp2
  go_ret
  exact ⟨rfl, HE.out⟩
end Go.Proofs.YtnmjnjhijcnbcaaDoor.F3
