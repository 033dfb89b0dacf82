/-
  The walk of DyaInts (its steps are printed by gen2.py).
-/
import Derived.Test.YtnmjnjhijcnbcaaDoorF3
import Derived.Test.YtnmjnjhijcnbcaaDoorF2
import Derived.Test.YtnmjnjhijcnbcaaDoorF6
import Derived.Deep.RegionHeld3
import Derived.Deep.DrawnRows
set_option linter.unusedVariables false
set_option linter.unusedSimpArgs false
namespace Go.Proofs.YtnmjnjhijcnbcaaDoor.F8
open Go Go.RowKit Go.Proofs.YtnmjnjhijcnbcaaDoor Go.Proofs.YtnmjnjhijcnbcaaDoor.Ow Go.Proofs.YtnmjnjhijcnbcaaDoor.Pl Go.Proofs.YtnmjnjhijcnbcaaDoor.Dp Go.Proofs.YtnmjnjhijcnbcaaDoor.Dt Go.Proofs.YtnmjnjhijcnbcaaDoor.D3 Go.Proofs.YtnmjnjhijcnbcaaDoor.E7 Go.Proofs.YtnmjnjhijcnbcaaDoor.F1

theorem mul_bd {a b : Int} (h0 : -1073741824 ≤ a) (h1 : a ≤ 1073741824) (h2 : -1073741824 ≤ b) (h3 : b ≤ 1073741824) : -9223372036854775807 ≤ a * b ∧ a * b ≤ 9223372036854775807 := by
  have h : (a * b).natAbs ≤ 1073741824 * 1073741824 := by
    rw [Int.natAbs_mul]; exact Nat.mul_le_mul (by omega) (by omega)
  omega
theorem short (a0 a1 : Int) (w : World) (T : Tab w) (h : a0 < -1073741824 ∨ (-1073741824 ≤ a0 ∧ 1073741824 < a0) ∨ (-1073741824 ≤ a0 ∧ a0 ≤ 1073741824 ∧ a1 < -1073741824) ∨ (-1073741824 ≤ a0 ∧ a0 ≤ 1073741824 ∧ -1073741824 ≤ a1 ∧ 1073741824 < a1)) :
    Calls Tryd.prog 8 #[.int .i64 a0, .int .i64 a1] w (Tells w (.bool true)) := by
  rcases h with h | ⟨h1, h⟩ | ⟨h1, h2, h⟩ | ⟨h1, h2, h3, h⟩
  · have d0 : decide (a0 < -1073741824) = true := decide_eq_true (by omega)
    go_enter Tryd.func8, Tryd.ntmps8
    go_wp2_with fail
    (with_reducible refine (F3.head_calls _ T).mono ?_); rintro e w1 ⟨rfl, b1⟩
    have HE := Ho.mk b1
    clear b1
    go_wp2
    go_ret
    exact ⟨rfl, HE.out⟩
  · have d0 : decide (a0 < -1073741824) = false := decide_eq_false (by omega)
    have d1 : decide (1073741824 < a0) = true := decide_eq_true (by omega)
    go_enter Tryd.func8, Tryd.ntmps8
    go_wp2_with fail
    (with_reducible refine (F3.head_calls _ T).mono ?_); rintro e w1 ⟨rfl, b1⟩
    have HE := Ho.mk b1
    clear b1
    go_wp2
    go_ret
    exact ⟨rfl, HE.out⟩
  · have d0 : decide (a0 < -1073741824) = false := decide_eq_false (by omega)
    have d1 : decide (1073741824 < a0) = false := decide_eq_false (by omega)
    have d2 : decide (a1 < -1073741824) = true := decide_eq_true (by omega)
    go_enter Tryd.func8, Tryd.ntmps8
    go_wp2_with fail
    (with_reducible refine (F3.head_calls _ T).mono ?_); rintro e w1 ⟨rfl, b1⟩
    have HE := Ho.mk b1
    clear b1
    go_wp2
    go_ret
    exact ⟨rfl, HE.out⟩
  · have d0 : decide (a0 < -1073741824) = false := decide_eq_false (by omega)
    have d1 : decide (1073741824 < a0) = false := decide_eq_false (by omega)
    have d2 : decide (a1 < -1073741824) = false := decide_eq_false (by omega)
    have d3 : decide (1073741824 < a1) = true := decide_eq_true (by omega)
    go_enter Tryd.func8, Tryd.ntmps8
    go_wp2_with fail
    (with_reducible refine (F3.head_calls _ T).mono ?_); rintro e w1 ⟨rfl, b1⟩
    have HE := Ho.mk b1
    clear b1
    go_wp2
    go_ret
    exact ⟨rfl, HE.out⟩
set_option maxRecDepth 100000 in
set_option maxHeartbeats 8000000 in
theorem lt_calls (a0 a1 : Int) (w : World) (T : Tab w) (h0 : -1073741824 ≤ a0) (h1 : a0 ≤ 1073741824) (h2 : -1073741824 ≤ a1) (h3 : a1 ≤ 1073741824) (h : a0 < a1) :
    Calls Tryd.prog 8 #[.int .i64 a0, .int .i64 a1] w (Tells w (.bool true)) := by
  have TT := Ho.mk T
  have HC : Ho (cmpI a0 a1 = -1) := ⟨cmpI_lt h⟩
  have HM : Ho (-9223372036854775807 ≤ a0 * a1 ∧ a0 * a1 ≤ 9223372036854775807) := ⟨mul_bd h0 h1 h2 h3⟩
  have hmm : IntKind.i64.wrap (a0 * a1) = a0 * a1 := IntWalk.i64_in _ (by have := HM.out; omega)
  have f0 : decide (a0 < a1) = true := decide_eq_true (by omega)
  have f1 : decide (a1 < a0) = false := decide_eq_false (by omega)
  clear h
  have g0 := Bel.refl w
  clear T
  go_enter Tryd.func8, Tryd.ntmps8
  go_wp2_with fail
  (with_reducible refine (F3.head_calls _ (TT.out.bel (g0.trans (Bel.refl _)))).mono ?_); rintro e w1 ⟨rfl, b1⟩
  go_wp2_with fail
  (with_reducible refine (F1.dOf (TT.out.bel (g0.trans ((Bel.refl _).trans b1))) a0 (by omega) (by omega)).mono ?_); rintro e w2 ⟨A2, c2, rfl, n2, b2⟩
  have KB6 := Ho.mk (Blk.new w2 [.bool (dneg (a0 * 2 ^ K)), .slice A2 (digs (dm (a0 * 2 ^ K))).length c2, .int .i64 (de (a0 * 2 ^ K))] 24)
  go_wp2_with fail
  (with_reducible refine (F1.dOf (TT.out.bel (g0.trans ((((Bel.refl _).trans b1).trans b2).alloc (.cells #[.bool (dneg (a0 * 2 ^ K)), .slice A2 (digs (dm (a0 * 2 ^ K))).length c2, .int .i64 (de (a0 * 2 ^ K))] 24)))) a1 (by omega) (by omega)).mono ?_); rintro e w3 ⟨A3, c3, rfl, n3, b3⟩
  have KB7 := Ho.mk (Blk.new w3 [.bool (dneg (a1 * 2 ^ K)), .slice A3 (digs (dm (a1 * 2 ^ K))).length c3, .int .i64 (de (a1 * 2 ^ K))] 24)
  have KB6_3x := Ho.mk ((KB6.out.bel (((Bel.refl _).trans b3).alloc (.cells #[.bool (dneg (a1 * 2 ^ K)), .slice A3 (digs (dm (a1 * 2 ^ K))).length c3, .int .i64 (de (a1 * 2 ^ K))] 24))))
  have yB6_3x_0 := KB6_3x.out.cell (i := 0) rfl
  have yB6_3x_1 := KB6_3x.out.cell (i := 1) rfl
  have yB6_3x_2 := KB6_3x.out.cell (i := 2) rfl
  go_wp2_with fail
  (with_reducible refine (F1.rRight (n2.bel ((((Bel.refl _).alloc (.cells #[.bool (dneg (a0 * 2 ^ K)), .slice A2 (digs (dm (a0 * 2 ^ K))).length c2, .int .i64 (de (a0 * 2 ^ K))] 24)).trans b3).alloc (.cells #[.bool (dneg (a1 * 2 ^ K)), .slice A3 (digs (dm (a1 * 2 ^ K))).length c3, .int .i64 (de (a1 * 2 ^ K))] 24))) (by omega) (by omega) (by omega)).mono ?_); rintro e w4 ⟨rfl, b4⟩
  clear yB6_3x_0 yB6_3x_1 yB6_3x_2
  have KB6_4 := Ho.mk ((KB6_3x.out.bel ((Bel.refl _).trans b4)))
  have yB6_4_0 := KB6_4.out.cell (i := 0) rfl
  have yB6_4_1 := KB6_4.out.cell (i := 1) rfl
  have yB6_4_2 := KB6_4.out.cell (i := 2) rfl
  have KB7_4 := Ho.mk ((KB7.out.bel ((Bel.refl _).trans b4)))
  have yB7_4_0 := KB7_4.out.cell (i := 0) rfl
  have yB7_4_1 := KB7_4.out.cell (i := 1) rfl
  have yB7_4_2 := KB7_4.out.cell (i := 2) rfl
  go_wp2_with fail
  (with_reducible refine (F1.dAdd (TT.out.bel (g0.trans (((((((Bel.refl _).trans b1).trans b2).alloc (.cells #[.bool (dneg (a0 * 2 ^ K)), .slice A2 (digs (dm (a0 * 2 ^ K))).length c2, .int .i64 (de (a0 * 2 ^ K))] 24)).trans b3).alloc (.cells #[.bool (dneg (a1 * 2 ^ K)), .slice A3 (digs (dm (a1 * 2 ^ K))).length c3, .int .i64 (de (a1 * 2 ^ K))] 24)).trans b4))) (n2.bel (((((Bel.refl _).alloc (.cells #[.bool (dneg (a0 * 2 ^ K)), .slice A2 (digs (dm (a0 * 2 ^ K))).length c2, .int .i64 (de (a0 * 2 ^ K))] 24)).trans b3).alloc (.cells #[.bool (dneg (a1 * 2 ^ K)), .slice A3 (digs (dm (a1 * 2 ^ K))).length c3, .int .i64 (de (a1 * 2 ^ K))] 24)).trans b4)) (n3.bel (((Bel.refl _).alloc (.cells #[.bool (dneg (a1 * 2 ^ K)), .slice A3 (digs (dm (a1 * 2 ^ K))).length c3, .int .i64 (de (a1 * 2 ^ K))] 24)).trans b4)) (by omega) (by omega)).mono ?_); rintro e w5 ⟨A5, c5, rfl, n5, b5⟩
  clear yB6_4_0 yB6_4_1 yB6_4_2 yB7_4_0 yB7_4_1 yB7_4_2
  go_wp2_with fail
  (with_reducible refine (F1.dOf (TT.out.bel (g0.trans ((((((((Bel.refl _).trans b1).trans b2).alloc (.cells #[.bool (dneg (a0 * 2 ^ K)), .slice A2 (digs (dm (a0 * 2 ^ K))).length c2, .int .i64 (de (a0 * 2 ^ K))] 24)).trans b3).alloc (.cells #[.bool (dneg (a1 * 2 ^ K)), .slice A3 (digs (dm (a1 * 2 ^ K))).length c3, .int .i64 (de (a1 * 2 ^ K))] 24)).trans b4).trans b5))) (a0 + a1) (by omega) (by omega)).mono ?_); rintro e w6 ⟨A6, c6, rfl, n6, b6⟩
  go_wp2_with fail
  (with_reducible refine (F1.same (n5.bel ((Bel.refl _).trans b6)) n6 (F6.of_add a0 a1)).mono ?_); rintro e w7 ⟨rfl, b7⟩
  have KB6_7 := Ho.mk ((KB6_4.out.bel ((((Bel.refl _).trans b5).trans b6).trans b7)))
  have yB6_7_0 := KB6_7.out.cell (i := 0) rfl
  have yB6_7_1 := KB6_7.out.cell (i := 1) rfl
  have yB6_7_2 := KB6_7.out.cell (i := 2) rfl
  have KB7_7 := Ho.mk ((KB7_4.out.bel ((((Bel.refl _).trans b5).trans b6).trans b7)))
  have yB7_7_0 := KB7_7.out.cell (i := 0) rfl
  have yB7_7_1 := KB7_7.out.cell (i := 1) rfl
  have yB7_7_2 := KB7_7.out.cell (i := 2) rfl
  go_wp2_with fail
  (with_reducible refine (F1.dMul (TT.out.bel (g0.trans ((((((((((Bel.refl _).trans b1).trans b2).alloc (.cells #[.bool (dneg (a0 * 2 ^ K)), .slice A2 (digs (dm (a0 * 2 ^ K))).length c2, .int .i64 (de (a0 * 2 ^ K))] 24)).trans b3).alloc (.cells #[.bool (dneg (a1 * 2 ^ K)), .slice A3 (digs (dm (a1 * 2 ^ K))).length c3, .int .i64 (de (a1 * 2 ^ K))] 24)).trans b4).trans b5).trans b6).trans b7))) (n2.bel ((((((((Bel.refl _).alloc (.cells #[.bool (dneg (a0 * 2 ^ K)), .slice A2 (digs (dm (a0 * 2 ^ K))).length c2, .int .i64 (de (a0 * 2 ^ K))] 24)).trans b3).alloc (.cells #[.bool (dneg (a1 * 2 ^ K)), .slice A3 (digs (dm (a1 * 2 ^ K))).length c3, .int .i64 (de (a1 * 2 ^ K))] 24)).trans b4).trans b5).trans b6).trans b7)) (n3.bel ((((((Bel.refl _).alloc (.cells #[.bool (dneg (a1 * 2 ^ K)), .slice A3 (digs (dm (a1 * 2 ^ K))).length c3, .int .i64 (de (a1 * 2 ^ K))] 24)).trans b4).trans b5).trans b6).trans b7)) (by omega) (by omega)).mono ?_); rintro e w8 ⟨A8, c8, rfl, n8, b8⟩
  clear yB6_7_0 yB6_7_1 yB6_7_2 yB7_7_0 yB7_7_1 yB7_7_2
  go_wp2_with fail
  (with_reducible refine (F1.dOf (TT.out.bel (g0.trans (((((((((((Bel.refl _).trans b1).trans b2).alloc (.cells #[.bool (dneg (a0 * 2 ^ K)), .slice A2 (digs (dm (a0 * 2 ^ K))).length c2, .int .i64 (de (a0 * 2 ^ K))] 24)).trans b3).alloc (.cells #[.bool (dneg (a1 * 2 ^ K)), .slice A3 (digs (dm (a1 * 2 ^ K))).length c3, .int .i64 (de (a1 * 2 ^ K))] 24)).trans b4).trans b5).trans b6).trans b7).trans b8))) (a0 * a1) HM.out.1 HM.out.2).mono ?_); rintro e w9 ⟨A9, c9, rfl, n9, b9⟩
  go_wp2_with fail
  (with_reducible refine (F1.same (n8.bel ((Bel.refl _).trans b9)) n9 (F6.of_mul a0 a1)).mono ?_); rintro e w10 ⟨rfl, b10⟩
  have KB6_10 := Ho.mk ((KB6_7.out.bel ((((Bel.refl _).trans b8).trans b9).trans b10)))
  have yB6_10_0 := KB6_10.out.cell (i := 0) rfl
  have yB6_10_1 := KB6_10.out.cell (i := 1) rfl
  have yB6_10_2 := KB6_10.out.cell (i := 2) rfl
  have KB7_10 := Ho.mk ((KB7_7.out.bel ((((Bel.refl _).trans b8).trans b9).trans b10)))
  have yB7_10_0 := KB7_10.out.cell (i := 0) rfl
  have yB7_10_1 := KB7_10.out.cell (i := 1) rfl
  have yB7_10_2 := KB7_10.out.cell (i := 2) rfl
  go_wp2_with fail
  (with_reducible refine (F1.dCmp (TT.out.bel (g0.trans (((((((((((((Bel.refl _).trans b1).trans b2).alloc (.cells #[.bool (dneg (a0 * 2 ^ K)), .slice A2 (digs (dm (a0 * 2 ^ K))).length c2, .int .i64 (de (a0 * 2 ^ K))] 24)).trans b3).alloc (.cells #[.bool (dneg (a1 * 2 ^ K)), .slice A3 (digs (dm (a1 * 2 ^ K))).length c3, .int .i64 (de (a1 * 2 ^ K))] 24)).trans b4).trans b5).trans b6).trans b7).trans b8).trans b9).trans b10))) (n2.bel (((((((((((Bel.refl _).alloc (.cells #[.bool (dneg (a0 * 2 ^ K)), .slice A2 (digs (dm (a0 * 2 ^ K))).length c2, .int .i64 (de (a0 * 2 ^ K))] 24)).trans b3).alloc (.cells #[.bool (dneg (a1 * 2 ^ K)), .slice A3 (digs (dm (a1 * 2 ^ K))).length c3, .int .i64 (de (a1 * 2 ^ K))] 24)).trans b4).trans b5).trans b6).trans b7).trans b8).trans b9).trans b10)) (n3.bel (((((((((Bel.refl _).alloc (.cells #[.bool (dneg (a1 * 2 ^ K)), .slice A3 (digs (dm (a1 * 2 ^ K))).length c3, .int .i64 (de (a1 * 2 ^ K))] 24)).trans b4).trans b5).trans b6).trans b7).trans b8).trans b9).trans b10)) (by omega) (by omega) (r := (-1)) ((F6.of_cmp a0 a1).trans HC.out)).mono ?_); rintro e w11 ⟨rfl, b11⟩
  clear yB6_10_0 yB6_10_1 yB6_10_2 yB7_10_0 yB7_10_1 yB7_10_2
  have KB6_11 := Ho.mk ((KB6_10.out.bel ((Bel.refl _).trans b11)))
  have yB6_11_0 := KB6_11.out.cell (i := 0) rfl
  have yB6_11_1 := KB6_11.out.cell (i := 1) rfl
  have yB6_11_2 := KB6_11.out.cell (i := 2) rfl
  go_wp2_with fail
  (with_reducible refine (F1.dFlip (TT.out.bel (g0.trans ((((((((((((((Bel.refl _).trans b1).trans b2).alloc (.cells #[.bool (dneg (a0 * 2 ^ K)), .slice A2 (digs (dm (a0 * 2 ^ K))).length c2, .int .i64 (de (a0 * 2 ^ K))] 24)).trans b3).alloc (.cells #[.bool (dneg (a1 * 2 ^ K)), .slice A3 (digs (dm (a1 * 2 ^ K))).length c3, .int .i64 (de (a1 * 2 ^ K))] 24)).trans b4).trans b5).trans b6).trans b7).trans b8).trans b9).trans b10).trans b11))) (n2.bel ((((((((((((Bel.refl _).alloc (.cells #[.bool (dneg (a0 * 2 ^ K)), .slice A2 (digs (dm (a0 * 2 ^ K))).length c2, .int .i64 (de (a0 * 2 ^ K))] 24)).trans b3).alloc (.cells #[.bool (dneg (a1 * 2 ^ K)), .slice A3 (digs (dm (a1 * 2 ^ K))).length c3, .int .i64 (de (a1 * 2 ^ K))] 24)).trans b4).trans b5).trans b6).trans b7).trans b8).trans b9).trans b10).trans b11)) (by omega)).mono ?_); rintro e w12 ⟨A12, c12, rfl, n12, b12⟩
  clear yB6_11_0 yB6_11_1 yB6_11_2
  go_wp2_with fail
  (with_reducible refine (F1.dOf (TT.out.bel (g0.trans (((((((((((((((Bel.refl _).trans b1).trans b2).alloc (.cells #[.bool (dneg (a0 * 2 ^ K)), .slice A2 (digs (dm (a0 * 2 ^ K))).length c2, .int .i64 (de (a0 * 2 ^ K))] 24)).trans b3).alloc (.cells #[.bool (dneg (a1 * 2 ^ K)), .slice A3 (digs (dm (a1 * 2 ^ K))).length c3, .int .i64 (de (a1 * 2 ^ K))] 24)).trans b4).trans b5).trans b6).trans b7).trans b8).trans b9).trans b10).trans b11).trans b12))) (-a0) (by omega) (by omega)).mono ?_); rintro e w13 ⟨A13, c13, rfl, n13, b13⟩
  go_wp2_with fail
  (with_reducible refine (F1.same (n12.bel ((Bel.refl _).trans b13)) n13 (F6.of_neg a0)).mono ?_); rintro e w14 ⟨rfl, b14⟩
  have HE := Ho.mk (g0.trans (((((((((((((((((Bel.refl _).trans b1).trans b2).alloc (.cells #[.bool (dneg (a0 * 2 ^ K)), .slice A2 (digs (dm (a0 * 2 ^ K))).length c2, .int .i64 (de (a0 * 2 ^ K))] 24)).trans b3).alloc (.cells #[.bool (dneg (a1 * 2 ^ K)), .slice A3 (digs (dm (a1 * 2 ^ K))).length c3, .int .i64 (de (a1 * 2 ^ K))] 24)).trans b4).trans b5).trans b6).trans b7).trans b8).trans b9).trans b10).trans b11).trans b12).trans b13).trans b14))
  go_wp2
  go_ret
  exact ⟨rfl, HE.out⟩
set_option maxRecDepth 100000 in
set_option maxHeartbeats 8000000 in
theorem eq_calls (a0 a1 : Int) (w : World) (T : Tab w) (h0 : -1073741824 ≤ a0) (h1 : a0 ≤ 1073741824) (h2 : -1073741824 ≤ a1) (h3 : a1 ≤ 1073741824) (h : a0 = a1) :
    Calls Tryd.prog 8 #[.int .i64 a0, .int .i64 a1] w (Tells w (.bool true)) := by
  have TT := Ho.mk T
  have HC : Ho (cmpI a0 a1 = 0) := ⟨cmpI_eq h⟩
  have HM : Ho (-9223372036854775807 ≤ a0 * a1 ∧ a0 * a1 ≤ 9223372036854775807) := ⟨mul_bd h0 h1 h2 h3⟩
  have hmm : IntKind.i64.wrap (a0 * a1) = a0 * a1 := IntWalk.i64_in _ (by have := HM.out; omega)
  have f0 : decide (a0 < a1) = false := decide_eq_false (by omega)
  have f1 : decide (a1 < a0) = false := decide_eq_false (by omega)
  clear h
  have g0 := Bel.refl w
  clear T
  go_enter Tryd.func8, Tryd.ntmps8
  go_wp2_with fail
  (with_reducible refine (F3.head_calls _ (TT.out.bel (g0.trans (Bel.refl _)))).mono ?_); rintro e w1 ⟨rfl, b1⟩
  go_wp2_with fail
  (with_reducible refine (F1.dOf (TT.out.bel (g0.trans ((Bel.refl _).trans b1))) a0 (by omega) (by omega)).mono ?_); rintro e w2 ⟨A2, c2, rfl, n2, b2⟩
  have KB6 := Ho.mk (Blk.new w2 [.bool (dneg (a0 * 2 ^ K)), .slice A2 (digs (dm (a0 * 2 ^ K))).length c2, .int .i64 (de (a0 * 2 ^ K))] 24)
  go_wp2_with fail
  (with_reducible refine (F1.dOf (TT.out.bel (g0.trans ((((Bel.refl _).trans b1).trans b2).alloc (.cells #[.bool (dneg (a0 * 2 ^ K)), .slice A2 (digs (dm (a0 * 2 ^ K))).length c2, .int .i64 (de (a0 * 2 ^ K))] 24)))) a1 (by omega) (by omega)).mono ?_); rintro e w3 ⟨A3, c3, rfl, n3, b3⟩
  have KB7 := Ho.mk (Blk.new w3 [.bool (dneg (a1 * 2 ^ K)), .slice A3 (digs (dm (a1 * 2 ^ K))).length c3, .int .i64 (de (a1 * 2 ^ K))] 24)
  have KB6_3x := Ho.mk ((KB6.out.bel (((Bel.refl _).trans b3).alloc (.cells #[.bool (dneg (a1 * 2 ^ K)), .slice A3 (digs (dm (a1 * 2 ^ K))).length c3, .int .i64 (de (a1 * 2 ^ K))] 24))))
  have yB6_3x_0 := KB6_3x.out.cell (i := 0) rfl
  have yB6_3x_1 := KB6_3x.out.cell (i := 1) rfl
  have yB6_3x_2 := KB6_3x.out.cell (i := 2) rfl
  go_wp2_with fail
  (with_reducible refine (F1.rRight (n2.bel ((((Bel.refl _).alloc (.cells #[.bool (dneg (a0 * 2 ^ K)), .slice A2 (digs (dm (a0 * 2 ^ K))).length c2, .int .i64 (de (a0 * 2 ^ K))] 24)).trans b3).alloc (.cells #[.bool (dneg (a1 * 2 ^ K)), .slice A3 (digs (dm (a1 * 2 ^ K))).length c3, .int .i64 (de (a1 * 2 ^ K))] 24))) (by omega) (by omega) (by omega)).mono ?_); rintro e w4 ⟨rfl, b4⟩
  clear yB6_3x_0 yB6_3x_1 yB6_3x_2
  have KB6_4 := Ho.mk ((KB6_3x.out.bel ((Bel.refl _).trans b4)))
  have yB6_4_0 := KB6_4.out.cell (i := 0) rfl
  have yB6_4_1 := KB6_4.out.cell (i := 1) rfl
  have yB6_4_2 := KB6_4.out.cell (i := 2) rfl
  have KB7_4 := Ho.mk ((KB7.out.bel ((Bel.refl _).trans b4)))
  have yB7_4_0 := KB7_4.out.cell (i := 0) rfl
  have yB7_4_1 := KB7_4.out.cell (i := 1) rfl
  have yB7_4_2 := KB7_4.out.cell (i := 2) rfl
  go_wp2_with fail
  (with_reducible refine (F1.dAdd (TT.out.bel (g0.trans (((((((Bel.refl _).trans b1).trans b2).alloc (.cells #[.bool (dneg (a0 * 2 ^ K)), .slice A2 (digs (dm (a0 * 2 ^ K))).length c2, .int .i64 (de (a0 * 2 ^ K))] 24)).trans b3).alloc (.cells #[.bool (dneg (a1 * 2 ^ K)), .slice A3 (digs (dm (a1 * 2 ^ K))).length c3, .int .i64 (de (a1 * 2 ^ K))] 24)).trans b4))) (n2.bel (((((Bel.refl _).alloc (.cells #[.bool (dneg (a0 * 2 ^ K)), .slice A2 (digs (dm (a0 * 2 ^ K))).length c2, .int .i64 (de (a0 * 2 ^ K))] 24)).trans b3).alloc (.cells #[.bool (dneg (a1 * 2 ^ K)), .slice A3 (digs (dm (a1 * 2 ^ K))).length c3, .int .i64 (de (a1 * 2 ^ K))] 24)).trans b4)) (n3.bel (((Bel.refl _).alloc (.cells #[.bool (dneg (a1 * 2 ^ K)), .slice A3 (digs (dm (a1 * 2 ^ K))).length c3, .int .i64 (de (a1 * 2 ^ K))] 24)).trans b4)) (by omega) (by omega)).mono ?_); rintro e w5 ⟨A5, c5, rfl, n5, b5⟩
  clear yB6_4_0 yB6_4_1 yB6_4_2 yB7_4_0 yB7_4_1 yB7_4_2
  go_wp2_with fail
  (with_reducible refine (F1.dOf (TT.out.bel (g0.trans ((((((((Bel.refl _).trans b1).trans b2).alloc (.cells #[.bool (dneg (a0 * 2 ^ K)), .slice A2 (digs (dm (a0 * 2 ^ K))).length c2, .int .i64 (de (a0 * 2 ^ K))] 24)).trans b3).alloc (.cells #[.bool (dneg (a1 * 2 ^ K)), .slice A3 (digs (dm (a1 * 2 ^ K))).length c3, .int .i64 (de (a1 * 2 ^ K))] 24)).trans b4).trans b5))) (a0 + a1) (by omega) (by omega)).mono ?_); rintro e w6 ⟨A6, c6, rfl, n6, b6⟩
  go_wp2_with fail
  (with_reducible refine (F1.same (n5.bel ((Bel.refl _).trans b6)) n6 (F6.of_add a0 a1)).mono ?_); rintro e w7 ⟨rfl, b7⟩
  have KB6_7 := Ho.mk ((KB6_4.out.bel ((((Bel.refl _).trans b5).trans b6).trans b7)))
  have yB6_7_0 := KB6_7.out.cell (i := 0) rfl
  have yB6_7_1 := KB6_7.out.cell (i := 1) rfl
  have yB6_7_2 := KB6_7.out.cell (i := 2) rfl
  have KB7_7 := Ho.mk ((KB7_4.out.bel ((((Bel.refl _).trans b5).trans b6).trans b7)))
  have yB7_7_0 := KB7_7.out.cell (i := 0) rfl
  have yB7_7_1 := KB7_7.out.cell (i := 1) rfl
  have yB7_7_2 := KB7_7.out.cell (i := 2) rfl
  go_wp2_with fail
  (with_reducible refine (F1.dMul (TT.out.bel (g0.trans ((((((((((Bel.refl _).trans b1).trans b2).alloc (.cells #[.bool (dneg (a0 * 2 ^ K)), .slice A2 (digs (dm (a0 * 2 ^ K))).length c2, .int .i64 (de (a0 * 2 ^ K))] 24)).trans b3).alloc (.cells #[.bool (dneg (a1 * 2 ^ K)), .slice A3 (digs (dm (a1 * 2 ^ K))).length c3, .int .i64 (de (a1 * 2 ^ K))] 24)).trans b4).trans b5).trans b6).trans b7))) (n2.bel ((((((((Bel.refl _).alloc (.cells #[.bool (dneg (a0 * 2 ^ K)), .slice A2 (digs (dm (a0 * 2 ^ K))).length c2, .int .i64 (de (a0 * 2 ^ K))] 24)).trans b3).alloc (.cells #[.bool (dneg (a1 * 2 ^ K)), .slice A3 (digs (dm (a1 * 2 ^ K))).length c3, .int .i64 (de (a1 * 2 ^ K))] 24)).trans b4).trans b5).trans b6).trans b7)) (n3.bel ((((((Bel.refl _).alloc (.cells #[.bool (dneg (a1 * 2 ^ K)), .slice A3 (digs (dm (a1 * 2 ^ K))).length c3, .int .i64 (de (a1 * 2 ^ K))] 24)).trans b4).trans b5).trans b6).trans b7)) (by omega) (by omega)).mono ?_); rintro e w8 ⟨A8, c8, rfl, n8, b8⟩
  clear yB6_7_0 yB6_7_1 yB6_7_2 yB7_7_0 yB7_7_1 yB7_7_2
  go_wp2_with fail
  (with_reducible refine (F1.dOf (TT.out.bel (g0.trans (((((((((((Bel.refl _).trans b1).trans b2).alloc (.cells #[.bool (dneg (a0 * 2 ^ K)), .slice A2 (digs (dm (a0 * 2 ^ K))).length c2, .int .i64 (de (a0 * 2 ^ K))] 24)).trans b3).alloc (.cells #[.bool (dneg (a1 * 2 ^ K)), .slice A3 (digs (dm (a1 * 2 ^ K))).length c3, .int .i64 (de (a1 * 2 ^ K))] 24)).trans b4).trans b5).trans b6).trans b7).trans b8))) (a0 * a1) HM.out.1 HM.out.2).mono ?_); rintro e w9 ⟨A9, c9, rfl, n9, b9⟩
  go_wp2_with fail
  (with_reducible refine (F1.same (n8.bel ((Bel.refl _).trans b9)) n9 (F6.of_mul a0 a1)).mono ?_); rintro e w10 ⟨rfl, b10⟩
  have KB6_10 := Ho.mk ((KB6_7.out.bel ((((Bel.refl _).trans b8).trans b9).trans b10)))
  have yB6_10_0 := KB6_10.out.cell (i := 0) rfl
  have yB6_10_1 := KB6_10.out.cell (i := 1) rfl
  have yB6_10_2 := KB6_10.out.cell (i := 2) rfl
  have KB7_10 := Ho.mk ((KB7_7.out.bel ((((Bel.refl _).trans b8).trans b9).trans b10)))
  have yB7_10_0 := KB7_10.out.cell (i := 0) rfl
  have yB7_10_1 := KB7_10.out.cell (i := 1) rfl
  have yB7_10_2 := KB7_10.out.cell (i := 2) rfl
  go_wp2_with fail
  (with_reducible refine (F1.dCmp (TT.out.bel (g0.trans (((((((((((((Bel.refl _).trans b1).trans b2).alloc (.cells #[.bool (dneg (a0 * 2 ^ K)), .slice A2 (digs (dm (a0 * 2 ^ K))).length c2, .int .i64 (de (a0 * 2 ^ K))] 24)).trans b3).alloc (.cells #[.bool (dneg (a1 * 2 ^ K)), .slice A3 (digs (dm (a1 * 2 ^ K))).length c3, .int .i64 (de (a1 * 2 ^ K))] 24)).trans b4).trans b5).trans b6).trans b7).trans b8).trans b9).trans b10))) (n2.bel (((((((((((Bel.refl _).alloc (.cells #[.bool (dneg (a0 * 2 ^ K)), .slice A2 (digs (dm (a0 * 2 ^ K))).length c2, .int .i64 (de (a0 * 2 ^ K))] 24)).trans b3).alloc (.cells #[.bool (dneg (a1 * 2 ^ K)), .slice A3 (digs (dm (a1 * 2 ^ K))).length c3, .int .i64 (de (a1 * 2 ^ K))] 24)).trans b4).trans b5).trans b6).trans b7).trans b8).trans b9).trans b10)) (n3.bel (((((((((Bel.refl _).alloc (.cells #[.bool (dneg (a1 * 2 ^ K)), .slice A3 (digs (dm (a1 * 2 ^ K))).length c3, .int .i64 (de (a1 * 2 ^ K))] 24)).trans b4).trans b5).trans b6).trans b7).trans b8).trans b9).trans b10)) (by omega) (by omega) (r := (0)) ((F6.of_cmp a0 a1).trans HC.out)).mono ?_); rintro e w11 ⟨rfl, b11⟩
  clear yB6_10_0 yB6_10_1 yB6_10_2 yB7_10_0 yB7_10_1 yB7_10_2
  have KB6_11 := Ho.mk ((KB6_10.out.bel ((Bel.refl _).trans b11)))
  have yB6_11_0 := KB6_11.out.cell (i := 0) rfl
  have yB6_11_1 := KB6_11.out.cell (i := 1) rfl
  have yB6_11_2 := KB6_11.out.cell (i := 2) rfl
  go_wp2_with fail
  (with_reducible refine (F1.dFlip (TT.out.bel (g0.trans ((((((((((((((Bel.refl _).trans b1).trans b2).alloc (.cells #[.bool (dneg (a0 * 2 ^ K)), .slice A2 (digs (dm (a0 * 2 ^ K))).length c2, .int .i64 (de (a0 * 2 ^ K))] 24)).trans b3).alloc (.cells #[.bool (dneg (a1 * 2 ^ K)), .slice A3 (digs (dm (a1 * 2 ^ K))).length c3, .int .i64 (de (a1 * 2 ^ K))] 24)).trans b4).trans b5).trans b6).trans b7).trans b8).trans b9).trans b10).trans b11))) (n2.bel ((((((((((((Bel.refl _).alloc (.cells #[.bool (dneg (a0 * 2 ^ K)), .slice A2 (digs (dm (a0 * 2 ^ K))).length c2, .int .i64 (de (a0 * 2 ^ K))] 24)).trans b3).alloc (.cells #[.bool (dneg (a1 * 2 ^ K)), .slice A3 (digs (dm (a1 * 2 ^ K))).length c3, .int .i64 (de (a1 * 2 ^ K))] 24)).trans b4).trans b5).trans b6).trans b7).trans b8).trans b9).trans b10).trans b11)) (by omega)).mono ?_); rintro e w12 ⟨A12, c12, rfl, n12, b12⟩
  clear yB6_11_0 yB6_11_1 yB6_11_2
  go_wp2_with fail
  (with_reducible refine (F1.dOf (TT.out.bel (g0.trans (((((((((((((((Bel.refl _).trans b1).trans b2).alloc (.cells #[.bool (dneg (a0 * 2 ^ K)), .slice A2 (digs (dm (a0 * 2 ^ K))).length c2, .int .i64 (de (a0 * 2 ^ K))] 24)).trans b3).alloc (.cells #[.bool (dneg (a1 * 2 ^ K)), .slice A3 (digs (dm (a1 * 2 ^ K))).length c3, .int .i64 (de (a1 * 2 ^ K))] 24)).trans b4).trans b5).trans b6).trans b7).trans b8).trans b9).trans b10).trans b11).trans b12))) (-a0) (by omega) (by omega)).mono ?_); rintro e w13 ⟨A13, c13, rfl, n13, b13⟩
  go_wp2_with fail
  (with_reducible refine (F1.same (n12.bel ((Bel.refl _).trans b13)) n13 (F6.of_neg a0)).mono ?_); rintro e w14 ⟨rfl, b14⟩
  have HE := Ho.mk (g0.trans (((((((((((((((((Bel.refl _).trans b1).trans b2).alloc (.cells #[.bool (dneg (a0 * 2 ^ K)), .slice A2 (digs (dm (a0 * 2 ^ K))).length c2, .int .i64 (de (a0 * 2 ^ K))] 24)).trans b3).alloc (.cells #[.bool (dneg (a1 * 2 ^ K)), .slice A3 (digs (dm (a1 * 2 ^ K))).length c3, .int .i64 (de (a1 * 2 ^ K))] 24)).trans b4).trans b5).trans b6).trans b7).trans b8).trans b9).trans b10).trans b11).trans b12).trans b13).trans b14))
  go_wp2
  go_ret
  exact ⟨rfl, HE.out⟩
set_option maxRecDepth 100000 in
set_option maxHeartbeats 8000000 in
theorem gt_calls (a0 a1 : Int) (w : World) (T : Tab w) (h0 : -1073741824 ≤ a0) (h1 : a0 ≤ 1073741824) (h2 : -1073741824 ≤ a1) (h3 : a1 ≤ 1073741824) (h : a1 < a0) :
    Calls Tryd.prog 8 #[.int .i64 a0, .int .i64 a1] w (Tells w (.bool true)) := by
  have TT := Ho.mk T
  have HC : Ho (cmpI a0 a1 = 1) := ⟨cmpI_gt h⟩
  have HM : Ho (-9223372036854775807 ≤ a0 * a1 ∧ a0 * a1 ≤ 9223372036854775807) := ⟨mul_bd h0 h1 h2 h3⟩
  have hmm : IntKind.i64.wrap (a0 * a1) = a0 * a1 := IntWalk.i64_in _ (by have := HM.out; omega)
  have f0 : decide (a0 < a1) = false := decide_eq_false (by omega)
  have f1 : decide (a1 < a0) = true := decide_eq_true (by omega)
  clear h
  have g0 := Bel.refl w
  clear T
  go_enter Tryd.func8, Tryd.ntmps8
  go_wp2_with fail
  (with_reducible refine (F3.head_calls _ (TT.out.bel (g0.trans (Bel.refl _)))).mono ?_); rintro e w1 ⟨rfl, b1⟩
  go_wp2_with fail
  (with_reducible refine (F1.dOf (TT.out.bel (g0.trans ((Bel.refl _).trans b1))) a0 (by omega) (by omega)).mono ?_); rintro e w2 ⟨A2, c2, rfl, n2, b2⟩
  have KB6 := Ho.mk (Blk.new w2 [.bool (dneg (a0 * 2 ^ K)), .slice A2 (digs (dm (a0 * 2 ^ K))).length c2, .int .i64 (de (a0 * 2 ^ K))] 24)
  go_wp2_with fail
  (with_reducible refine (F1.dOf (TT.out.bel (g0.trans ((((Bel.refl _).trans b1).trans b2).alloc (.cells #[.bool (dneg (a0 * 2 ^ K)), .slice A2 (digs (dm (a0 * 2 ^ K))).length c2, .int .i64 (de (a0 * 2 ^ K))] 24)))) a1 (by omega) (by omega)).mono ?_); rintro e w3 ⟨A3, c3, rfl, n3, b3⟩
  have KB7 := Ho.mk (Blk.new w3 [.bool (dneg (a1 * 2 ^ K)), .slice A3 (digs (dm (a1 * 2 ^ K))).length c3, .int .i64 (de (a1 * 2 ^ K))] 24)
  have KB6_3x := Ho.mk ((KB6.out.bel (((Bel.refl _).trans b3).alloc (.cells #[.bool (dneg (a1 * 2 ^ K)), .slice A3 (digs (dm (a1 * 2 ^ K))).length c3, .int .i64 (de (a1 * 2 ^ K))] 24))))
  have yB6_3x_0 := KB6_3x.out.cell (i := 0) rfl
  have yB6_3x_1 := KB6_3x.out.cell (i := 1) rfl
  have yB6_3x_2 := KB6_3x.out.cell (i := 2) rfl
  go_wp2_with fail
  (with_reducible refine (F1.rRight (n2.bel ((((Bel.refl _).alloc (.cells #[.bool (dneg (a0 * 2 ^ K)), .slice A2 (digs (dm (a0 * 2 ^ K))).length c2, .int .i64 (de (a0 * 2 ^ K))] 24)).trans b3).alloc (.cells #[.bool (dneg (a1 * 2 ^ K)), .slice A3 (digs (dm (a1 * 2 ^ K))).length c3, .int .i64 (de (a1 * 2 ^ K))] 24))) (by omega) (by omega) (by omega)).mono ?_); rintro e w4 ⟨rfl, b4⟩
  clear yB6_3x_0 yB6_3x_1 yB6_3x_2
  have KB6_4 := Ho.mk ((KB6_3x.out.bel ((Bel.refl _).trans b4)))
  have yB6_4_0 := KB6_4.out.cell (i := 0) rfl
  have yB6_4_1 := KB6_4.out.cell (i := 1) rfl
  have yB6_4_2 := KB6_4.out.cell (i := 2) rfl
  have KB7_4 := Ho.mk ((KB7.out.bel ((Bel.refl _).trans b4)))
  have yB7_4_0 := KB7_4.out.cell (i := 0) rfl
  have yB7_4_1 := KB7_4.out.cell (i := 1) rfl
  have yB7_4_2 := KB7_4.out.cell (i := 2) rfl
  go_wp2_with fail
  (with_reducible refine (F1.dAdd (TT.out.bel (g0.trans (((((((Bel.refl _).trans b1).trans b2).alloc (.cells #[.bool (dneg (a0 * 2 ^ K)), .slice A2 (digs (dm (a0 * 2 ^ K))).length c2, .int .i64 (de (a0 * 2 ^ K))] 24)).trans b3).alloc (.cells #[.bool (dneg (a1 * 2 ^ K)), .slice A3 (digs (dm (a1 * 2 ^ K))).length c3, .int .i64 (de (a1 * 2 ^ K))] 24)).trans b4))) (n2.bel (((((Bel.refl _).alloc (.cells #[.bool (dneg (a0 * 2 ^ K)), .slice A2 (digs (dm (a0 * 2 ^ K))).length c2, .int .i64 (de (a0 * 2 ^ K))] 24)).trans b3).alloc (.cells #[.bool (dneg (a1 * 2 ^ K)), .slice A3 (digs (dm (a1 * 2 ^ K))).length c3, .int .i64 (de (a1 * 2 ^ K))] 24)).trans b4)) (n3.bel (((Bel.refl _).alloc (.cells #[.bool (dneg (a1 * 2 ^ K)), .slice A3 (digs (dm (a1 * 2 ^ K))).length c3, .int .i64 (de (a1 * 2 ^ K))] 24)).trans b4)) (by omega) (by omega)).mono ?_); rintro e w5 ⟨A5, c5, rfl, n5, b5⟩
  clear yB6_4_0 yB6_4_1 yB6_4_2 yB7_4_0 yB7_4_1 yB7_4_2
  go_wp2_with fail
  (with_reducible refine (F1.dOf (TT.out.bel (g0.trans ((((((((Bel.refl _).trans b1).trans b2).alloc (.cells #[.bool (dneg (a0 * 2 ^ K)), .slice A2 (digs (dm (a0 * 2 ^ K))).length c2, .int .i64 (de (a0 * 2 ^ K))] 24)).trans b3).alloc (.cells #[.bool (dneg (a1 * 2 ^ K)), .slice A3 (digs (dm (a1 * 2 ^ K))).length c3, .int .i64 (de (a1 * 2 ^ K))] 24)).trans b4).trans b5))) (a0 + a1) (by omega) (by omega)).mono ?_); rintro e w6 ⟨A6, c6, rfl, n6, b6⟩
  go_wp2_with fail
  (with_reducible refine (F1.same (n5.bel ((Bel.refl _).trans b6)) n6 (F6.of_add a0 a1)).mono ?_); rintro e w7 ⟨rfl, b7⟩
  have KB6_7 := Ho.mk ((KB6_4.out.bel ((((Bel.refl _).trans b5).trans b6).trans b7)))
  have yB6_7_0 := KB6_7.out.cell (i := 0) rfl
  have yB6_7_1 := KB6_7.out.cell (i := 1) rfl
  have yB6_7_2 := KB6_7.out.cell (i := 2) rfl
  have KB7_7 := Ho.mk ((KB7_4.out.bel ((((Bel.refl _).trans b5).trans b6).trans b7)))
  have yB7_7_0 := KB7_7.out.cell (i := 0) rfl
  have yB7_7_1 := KB7_7.out.cell (i := 1) rfl
  have yB7_7_2 := KB7_7.out.cell (i := 2) rfl
  go_wp2_with fail
  (with_reducible refine (F1.dMul (TT.out.bel (g0.trans ((((((((((Bel.refl _).trans b1).trans b2).alloc (.cells #[.bool (dneg (a0 * 2 ^ K)), .slice A2 (digs (dm (a0 * 2 ^ K))).length c2, .int .i64 (de (a0 * 2 ^ K))] 24)).trans b3).alloc (.cells #[.bool (dneg (a1 * 2 ^ K)), .slice A3 (digs (dm (a1 * 2 ^ K))).length c3, .int .i64 (de (a1 * 2 ^ K))] 24)).trans b4).trans b5).trans b6).trans b7))) (n2.bel ((((((((Bel.refl _).alloc (.cells #[.bool (dneg (a0 * 2 ^ K)), .slice A2 (digs (dm (a0 * 2 ^ K))).length c2, .int .i64 (de (a0 * 2 ^ K))] 24)).trans b3).alloc (.cells #[.bool (dneg (a1 * 2 ^ K)), .slice A3 (digs (dm (a1 * 2 ^ K))).length c3, .int .i64 (de (a1 * 2 ^ K))] 24)).trans b4).trans b5).trans b6).trans b7)) (n3.bel ((((((Bel.refl _).alloc (.cells #[.bool (dneg (a1 * 2 ^ K)), .slice A3 (digs (dm (a1 * 2 ^ K))).length c3, .int .i64 (de (a1 * 2 ^ K))] 24)).trans b4).trans b5).trans b6).trans b7)) (by omega) (by omega)).mono ?_); rintro e w8 ⟨A8, c8, rfl, n8, b8⟩
  clear yB6_7_0 yB6_7_1 yB6_7_2 yB7_7_0 yB7_7_1 yB7_7_2
  go_wp2_with fail
  (with_reducible refine (F1.dOf (TT.out.bel (g0.trans (((((((((((Bel.refl _).trans b1).trans b2).alloc (.cells #[.bool (dneg (a0 * 2 ^ K)), .slice A2 (digs (dm (a0 * 2 ^ K))).length c2, .int .i64 (de (a0 * 2 ^ K))] 24)).trans b3).alloc (.cells #[.bool (dneg (a1 * 2 ^ K)), .slice A3 (digs (dm (a1 * 2 ^ K))).length c3, .int .i64 (de (a1 * 2 ^ K))] 24)).trans b4).trans b5).trans b6).trans b7).trans b8))) (a0 * a1) HM.out.1 HM.out.2).mono ?_); rintro e w9 ⟨A9, c9, rfl, n9, b9⟩
  go_wp2_with fail
  (with_reducible refine (F1.same (n8.bel ((Bel.refl _).trans b9)) n9 (F6.of_mul a0 a1)).mono ?_); rintro e w10 ⟨rfl, b10⟩
  have KB6_10 := Ho.mk ((KB6_7.out.bel ((((Bel.refl _).trans b8).trans b9).trans b10)))
  have yB6_10_0 := KB6_10.out.cell (i := 0) rfl
  have yB6_10_1 := KB6_10.out.cell (i := 1) rfl
  have yB6_10_2 := KB6_10.out.cell (i := 2) rfl
  have KB7_10 := Ho.mk ((KB7_7.out.bel ((((Bel.refl _).trans b8).trans b9).trans b10)))
  have yB7_10_0 := KB7_10.out.cell (i := 0) rfl
  have yB7_10_1 := KB7_10.out.cell (i := 1) rfl
  have yB7_10_2 := KB7_10.out.cell (i := 2) rfl
  go_wp2_with fail
  (with_reducible refine (F1.dCmp (TT.out.bel (g0.trans (((((((((((((Bel.refl _).trans b1).trans b2).alloc (.cells #[.bool (dneg (a0 * 2 ^ K)), .slice A2 (digs (dm (a0 * 2 ^ K))).length c2, .int .i64 (de (a0 * 2 ^ K))] 24)).trans b3).alloc (.cells #[.bool (dneg (a1 * 2 ^ K)), .slice A3 (digs (dm (a1 * 2 ^ K))).length c3, .int .i64 (de (a1 * 2 ^ K))] 24)).trans b4).trans b5).trans b6).trans b7).trans b8).trans b9).trans b10))) (n2.bel (((((((((((Bel.refl _).alloc (.cells #[.bool (dneg (a0 * 2 ^ K)), .slice A2 (digs (dm (a0 * 2 ^ K))).length c2, .int .i64 (de (a0 * 2 ^ K))] 24)).trans b3).alloc (.cells #[.bool (dneg (a1 * 2 ^ K)), .slice A3 (digs (dm (a1 * 2 ^ K))).length c3, .int .i64 (de (a1 * 2 ^ K))] 24)).trans b4).trans b5).trans b6).trans b7).trans b8).trans b9).trans b10)) (n3.bel (((((((((Bel.refl _).alloc (.cells #[.bool (dneg (a1 * 2 ^ K)), .slice A3 (digs (dm (a1 * 2 ^ K))).length c3, .int .i64 (de (a1 * 2 ^ K))] 24)).trans b4).trans b5).trans b6).trans b7).trans b8).trans b9).trans b10)) (by omega) (by omega) (r := (1)) ((F6.of_cmp a0 a1).trans HC.out)).mono ?_); rintro e w11 ⟨rfl, b11⟩
  clear yB6_10_0 yB6_10_1 yB6_10_2 yB7_10_0 yB7_10_1 yB7_10_2
  have KB6_11 := Ho.mk ((KB6_10.out.bel ((Bel.refl _).trans b11)))
  have yB6_11_0 := KB6_11.out.cell (i := 0) rfl
  have yB6_11_1 := KB6_11.out.cell (i := 1) rfl
  have yB6_11_2 := KB6_11.out.cell (i := 2) rfl
  go_wp2_with fail
  (with_reducible refine (F1.dFlip (TT.out.bel (g0.trans ((((((((((((((Bel.refl _).trans b1).trans b2).alloc (.cells #[.bool (dneg (a0 * 2 ^ K)), .slice A2 (digs (dm (a0 * 2 ^ K))).length c2, .int .i64 (de (a0 * 2 ^ K))] 24)).trans b3).alloc (.cells #[.bool (dneg (a1 * 2 ^ K)), .slice A3 (digs (dm (a1 * 2 ^ K))).length c3, .int .i64 (de (a1 * 2 ^ K))] 24)).trans b4).trans b5).trans b6).trans b7).trans b8).trans b9).trans b10).trans b11))) (n2.bel ((((((((((((Bel.refl _).alloc (.cells #[.bool (dneg (a0 * 2 ^ K)), .slice A2 (digs (dm (a0 * 2 ^ K))).length c2, .int .i64 (de (a0 * 2 ^ K))] 24)).trans b3).alloc (.cells #[.bool (dneg (a1 * 2 ^ K)), .slice A3 (digs (dm (a1 * 2 ^ K))).length c3, .int .i64 (de (a1 * 2 ^ K))] 24)).trans b4).trans b5).trans b6).trans b7).trans b8).trans b9).trans b10).trans b11)) (by omega)).mono ?_); rintro e w12 ⟨A12, c12, rfl, n12, b12⟩
  clear yB6_11_0 yB6_11_1 yB6_11_2
  go_wp2_with fail
  (with_reducible refine (F1.dOf (TT.out.bel (g0.trans (((((((((((((((Bel.refl _).trans b1).trans b2).alloc (.cells #[.bool (dneg (a0 * 2 ^ K)), .slice A2 (digs (dm (a0 * 2 ^ K))).length c2, .int .i64 (de (a0 * 2 ^ K))] 24)).trans b3).alloc (.cells #[.bool (dneg (a1 * 2 ^ K)), .slice A3 (digs (dm (a1 * 2 ^ K))).length c3, .int .i64 (de (a1 * 2 ^ K))] 24)).trans b4).trans b5).trans b6).trans b7).trans b8).trans b9).trans b10).trans b11).trans b12))) (-a0) (by omega) (by omega)).mono ?_); rintro e w13 ⟨A13, c13, rfl, n13, b13⟩
  go_wp2_with fail
  (with_reducible refine (F1.same (n12.bel ((Bel.refl _).trans b13)) n13 (F6.of_neg a0)).mono ?_); rintro e w14 ⟨rfl, b14⟩
  have HE := Ho.mk (g0.trans (((((((((((((((((Bel.refl _).trans b1).trans b2).alloc (.cells #[.bool (dneg (a0 * 2 ^ K)), .slice A2 (digs (dm (a0 * 2 ^ K))).length c2, .int .i64 (de (a0 * 2 ^ K))] 24)).trans b3).alloc (.cells #[.bool (dneg (a1 * 2 ^ K)), .slice A3 (digs (dm (a1 * 2 ^ K))).length c3, .int .i64 (de (a1 * 2 ^ K))] 24)).trans b4).trans b5).trans b6).trans b7).trans b8).trans b9).trans b10).trans b11).trans b12).trans b13).trans b14))
  go_wp2
  go_ret
  exact ⟨rfl, HE.out⟩
theorem ints_calls (a0 a1 : Int) (w : World) (T : Tab w) (b0 : -9223372036854775808 ≤ a0 ∧ a0 ≤ 9223372036854775807) (b1 : -9223372036854775808 ≤ a1 ∧ a1 ≤ 9223372036854775807) :
    Calls Tryd.prog 8 #[.int .i64 a0, .int .i64 a1] w (Tells w (.bool true)) := by
  by_cases h : -1073741824 ≤ a0 ∧ a0 ≤ 1073741824 ∧ -1073741824 ≤ a1 ∧ a1 ≤ 1073741824
  · obtain ⟨h0, h1, h2, h3⟩ := h
    rcases Int.lt_trichotomy a0 a1 with q | q | q
    · exact lt_calls a0 a1 w T h0 h1 h2 h3 q
    · exact eq_calls a0 a1 w T h0 h1 h2 h3 q
    · exact gt_calls a0 a1 w T h0 h1 h2 h3 q
  · exact short a0 a1 w T (by omega)
end Go.Proofs.YtnmjnjhijcnbcaaDoor.F8
