/-
  The walk of DyaShift (its steps are printed by gen2.py).
-/
import Derived.Test.YtnmjnjhijcnbcaaDoorF3
import Derived.Test.YtnmjnjhijcnbcaaDoorF2
import Derived.Test.YtnmjnjhijcnbcaaDoorF6
import Derived.Deep.RegionHeld3
import Derived.Deep.DrawnRows
set_option linter.unusedVariables false
set_option linter.unusedSimpArgs false
namespace Go.Proofs.YtnmjnjhijcnbcaaDoor.F9
open Go Go.RowKit Go.Proofs.YtnmjnjhijcnbcaaDoor Go.Proofs.YtnmjnjhijcnbcaaDoor.Ow Go.Proofs.YtnmjnjhijcnbcaaDoor.Pl Go.Proofs.YtnmjnjhijcnbcaaDoor.Dp Go.Proofs.YtnmjnjhijcnbcaaDoor.Dt Go.Proofs.YtnmjnjhijcnbcaaDoor.D3 Go.Proofs.YtnmjnjhijcnbcaaDoor.E7 Go.Proofs.YtnmjnjhijcnbcaaDoor.F1

attribute [local go_sem ↓] Go.wp_at_zero Go.wp_at_succ
theorem shift_good {w : World} (n0 : Bool) {A0 : Option Addr} (c0 : Nat) {l0 : List Int} (e0 : Int) (n1 : Bool) {A1 : Option Addr} (c1 : Nat) {l1 : List Int} (e1 : Int) (h0 : Rd w A0 l0) (h1 : Rd w A1 l1) (W : World) (g : Bel w W) :
    Calls Tryd.prog 18 #[.slice (some ⟨W.heap.size, 0, none⟩) 2 2] (W.alloc (.cells #[.bool n0, .slice A0 l0.length c0, .int .i64 e0, .bool n1, .slice A1 l1.length c1, .int .i64 e1] 24)) (Tells (W.alloc (.cells #[.bool n0, .slice A0 l0.length c0, .int .i64 e0, .bool n1, .slice A1 l1.length c1, .int .i64 e1] 24)) (.bool (([⟨n0, A0, c0, l0, e0⟩, ⟨n1, A1, c1, l1, e1⟩] : List F2.DRow).all F2.goodB))) :=
  F2.good_calls W.heap.size 2 [⟨n0, A0, c0, l0, e0⟩, ⟨n1, A1, c1, l1, e1⟩] _ rfl (by decide) (Blk.new W [.bool n0, .slice A0 l0.length c0, .int .i64 e0, .bool n1, .slice A1 l1.length c1, .int .i64 e1] 24) (by
    intro r hr
    simp only [List.mem_cons, List.not_mem_nil, or_false] at hr
    rcases hr with rfl | rfl
    · exact (h0.bel g).bel ((Bel.refl _).alloc _)
    · exact (h1.bel g).bel ((Bel.refl _).alloc _)
    )
set_option maxRecDepth 100000 in
set_option maxHeartbeats 40000000 in
theorem shift_calls (n0 : Bool) (A0 : Option Addr) (c0 : Nat) (l0 : List Int) (e0 : Int) (n1 : Bool) (A1 : Option Addr) (c1 : Nat) (l1 : List Int) (e1 : Int) (a2 : Int) (w : World) (T : Tab w) (h0 : Rd w A0 l0) (k0 : l0.length ≤ c0) (h1 : Rd w A1 l1) (k1 : l1.length ≤ c1) (hk0 : -500 ≤ a2) (hk1 : a2 ≤ 500):
    Calls Tryd.prog 7 #[.agg #[.bool n0, .slice A0 l0.length c0, .int .i64 e0], .agg #[.bool n1, .slice A1 l1.length c1, .int .i64 e1], .int .i64 a2] w (Tells w (.bool true)) := by
  have TT := Ho.mk T
  clear T
  have HG := Ho.mk (shift_good n0 c0 e0 n1 c1 e1 h0 h1)
  cases hg : (([⟨n0, A0, c0, l0, e0⟩, ⟨n1, A1, c1, l1, e1⟩] : List F2.DRow).all F2.goodB) with
  | false =>
    rw [hg] at HG
    clear hg
    go_enter Tryd.func7, Tryd.ntmps7
    go_wp2_with fail
    have KB0 := Ho.mk ((Blk.new w [.bool n0, .slice A0 l0.length c0, .int .i64 e0] 24).old (.cells #[.bool n1, .slice A1 l1.length c1, .int .i64 e1] 24))
    have KB1 := Ho.mk (Blk.new (w.alloc (.cells #[.bool n0, .slice A0 l0.length c0, .int .i64 e0] 24)) [.bool n1, .slice A1 l1.length c1, .int .i64 e1] 24)
    have g0 := ((Bel.refl w).alloc (.cells #[.bool n0, .slice A0 l0.length c0, .int .i64 e0] 24)).alloc (.cells #[.bool n1, .slice A1 l1.length c1, .int .i64 e1] 24)
    rw [World.size_alloc] at KB1
    have hZ : ((w.alloc (.cells #[.bool n0, .slice A0 l0.length c0, .int .i64 e0] 24)).alloc (.cells #[.bool n1, .slice A1 l1.length c1, .int .i64 e1] 24)) = ((w.alloc (.cells #[.bool n0, .slice A0 l0.length c0, .int .i64 e0] 24)).alloc (.cells #[.bool n1, .slice A1 l1.length c1, .int .i64 e1] 24)) := rfl
    generalize ((w.alloc (.cells #[.bool n0, .slice A0 l0.length c0, .int .i64 e0] 24)).alloc (.cells #[.bool n1, .slice A1 l1.length c1, .int .i64 e1] 24)) = w0 at *
    clear hZ
    (with_reducible refine (F3.head_calls _ (TT.out.bel g0)).mono ?_); rintro e w1 ⟨rfl, b1⟩
    have K0_1 := Ho.mk (KB0.out.bel b1)
    have y0_0 := K0_1.out.cell (i := 0) rfl
    have y0_1 := K0_1.out.cell (i := 1) rfl
    have y0_2 := K0_1.out.cell (i := 2) rfl
    have K1_1 := Ho.mk (KB1.out.bel b1)
    have y1_0 := K1_1.out.cell (i := 0) rfl
    have y1_1 := K1_1.out.cell (i := 1) rfl
    have y1_2 := K1_1.out.cell (i := 2) rfl
    go_wp2_with fail
    (with_reducible refine (HG.out _ (g0.trans b1)).mono ?_); rintro e w2 ⟨rfl, b2⟩
    have HE := Ho.mk (g0.trans ((b1.alloc _).trans b2))
    go_wp2
    go_ret
    exact ⟨rfl, HE.out⟩
  | true =>
    rw [hg] at HG
    simp only [List.all_cons, List.all_nil, Bool.and_true, Bool.and_eq_true] at hg
    obtain ⟨q0, q1⟩ := hg
    obtain ⟨v0, ea, eb, ec, len0, wd0⟩ := F2.good_num q0
    dsimp only at ea eb ec
    subst ea eb ec
    have p0 : Dv w A0 c0 v0 200 392 := ⟨k0, h0, wd0⟩
    clear q0
    obtain ⟨v1, ea, eb, ec, len1, wd1⟩ := F2.good_num q1
    dsimp only at ea eb ec
    subst ea eb ec
    have p1 : Dv w A1 c1 v1 200 392 := ⟨k1, h1, wd1⟩
    clear q1
    clear h0 k0 h1 k1
    obtain ⟨x, hx⟩ : ∃ x, cmpI v0 v1 = x := ⟨_, rfl⟩
    have HX := Ho.mk hx
    have hwn : IntKind.i64.wrap (-a2) = -a2 := IntWalk.i64_in _ (by omega)
    have hka : decide (a2 < -500) = false := decide_eq_false (by omega)
    have hkb : decide (500 < a2) = false := decide_eq_false (by omega)
    clear hx
    go_enter Tryd.func7, Tryd.ntmps7
    go_wp2_with fail
    have KB0 := Ho.mk ((Blk.new w [.bool (dneg v0), .slice A0 (digs (dm v0)).length c0, .int .i64 (de v0)] 24).old (.cells #[.bool (dneg v1), .slice A1 (digs (dm v1)).length c1, .int .i64 (de v1)] 24))
    have KB1 := Ho.mk (Blk.new (w.alloc (.cells #[.bool (dneg v0), .slice A0 (digs (dm v0)).length c0, .int .i64 (de v0)] 24)) [.bool (dneg v1), .slice A1 (digs (dm v1)).length c1, .int .i64 (de v1)] 24)
    have g0 := ((Bel.refl w).alloc (.cells #[.bool (dneg v0), .slice A0 (digs (dm v0)).length c0, .int .i64 (de v0)] 24)).alloc (.cells #[.bool (dneg v1), .slice A1 (digs (dm v1)).length c1, .int .i64 (de v1)] 24)
    rw [World.size_alloc] at KB1
    have hZ : ((w.alloc (.cells #[.bool (dneg v0), .slice A0 (digs (dm v0)).length c0, .int .i64 (de v0)] 24)).alloc (.cells #[.bool (dneg v1), .slice A1 (digs (dm v1)).length c1, .int .i64 (de v1)] 24)) = ((w.alloc (.cells #[.bool (dneg v0), .slice A0 (digs (dm v0)).length c0, .int .i64 (de v0)] 24)).alloc (.cells #[.bool (dneg v1), .slice A1 (digs (dm v1)).length c1, .int .i64 (de v1)] 24)) := rfl
    generalize ((w.alloc (.cells #[.bool (dneg v0), .slice A0 (digs (dm v0)).length c0, .int .i64 (de v0)] 24)).alloc (.cells #[.bool (dneg v1), .slice A1 (digs (dm v1)).length c1, .int .i64 (de v1)] 24)) = w0 at *
    clear hZ
    (with_reducible refine (F3.head_calls _ (TT.out.bel (g0.trans (Bel.refl _)))).mono ?_); rintro e w1 ⟨rfl, b1⟩
    have KB0_1 := Ho.mk ((KB0.out.bel ((Bel.refl _).trans b1)))
    have yB0_1_0 := KB0_1.out.cell (i := 0) rfl
    have yB0_1_1 := KB0_1.out.cell (i := 1) rfl
    have yB0_1_2 := KB0_1.out.cell (i := 2) rfl
    have KB1_1 := Ho.mk ((KB1.out.bel ((Bel.refl _).trans b1)))
    have yB1_1_0 := KB1_1.out.cell (i := 0) rfl
    have yB1_1_1 := KB1_1.out.cell (i := 1) rfl
    have yB1_1_2 := KB1_1.out.cell (i := 2) rfl
    go_wp2_with fail
    (with_reducible refine ((HG.out _ (g0.trans ((Bel.refl _).trans b1)))).mono ?_); rintro e w2 ⟨rfl, b2⟩
    clear yB0_1_0 yB0_1_1 yB0_1_2 yB1_1_0 yB1_1_1 yB1_1_2
    have KB0_2 := Ho.mk ((KB0_1.out.bel (((Bel.refl _).alloc (.cells #[.bool (dneg v0), .slice A0 (digs (dm v0)).length c0, .int .i64 (de v0), .bool (dneg v1), .slice A1 (digs (dm v1)).length c1, .int .i64 (de v1)] 24)).trans b2)))
    have yB0_2_0 := KB0_2.out.cell (i := 0) rfl
    have yB0_2_1 := KB0_2.out.cell (i := 1) rfl
    have yB0_2_2 := KB0_2.out.cell (i := 2) rfl
    go_wp2_with fail
    (with_reducible refine (F1.dShift (TT.out.bel (g0.trans ((((Bel.refl _).trans b1).alloc (.cells #[.bool (dneg v0), .slice A0 (digs (dm v0)).length c0, .int .i64 (de v0), .bool (dneg v1), .slice A1 (digs (dm v1)).length c1, .int .i64 (de v1)] 24)).trans b2))) ((p0.bel g0).bel ((((Bel.refl _).trans b1).alloc (.cells #[.bool (dneg v0), .slice A0 (digs (dm v0)).length c0, .int .i64 (de v0), .bool (dneg v1), .slice A1 (digs (dm v1)).length c1, .int .i64 (de v1)] 24)).trans b2)) a2 500 (by omega) (by omega) (by omega) (by omega)).mono ?_); rintro e w3 ⟨A3, c3, rfl, n3, b3⟩
    clear yB0_2_0 yB0_2_1 yB0_2_2
    have KB8 := Ho.mk (Blk.new w3 [.bool (dneg (shiftD v0 a2)), .slice A3 (digs (dm (shiftD v0 a2))).length c3, .int .i64 (de (shiftD v0 a2))] 24)
    go_wp2_with fail
    have KB0_r5 := Ho.mk ((KB0_2.out.bel (((Bel.refl _).trans b3).alloc (.cells #[.bool (dneg (shiftD v0 a2)), .slice A3 (digs (dm (shiftD v0 a2))).length c3, .int .i64 (de (shiftD v0 a2))] 24))))
    have yB0_r5_0 := KB0_r5.out.cell (i := 0) rfl
    have yB0_r5_1 := KB0_r5.out.cell (i := 1) rfl
    have yB0_r5_2 := KB0_r5.out.cell (i := 2) rfl
    have KB1_r5 := Ho.mk ((KB1_1.out.bel (((((Bel.refl _).alloc (.cells #[.bool (dneg v0), .slice A0 (digs (dm v0)).length c0, .int .i64 (de v0), .bool (dneg v1), .slice A1 (digs (dm v1)).length c1, .int .i64 (de v1)] 24)).trans b2).trans b3).alloc (.cells #[.bool (dneg (shiftD v0 a2)), .slice A3 (digs (dm (shiftD v0 a2))).length c3, .int .i64 (de (shiftD v0 a2))] 24))))
    have yB1_r5_0 := KB1_r5.out.cell (i := 0) rfl
    have yB1_r5_1 := KB1_r5.out.cell (i := 1) rfl
    have yB1_r5_2 := KB1_r5.out.cell (i := 2) rfl
    have KB8_r5 := Ho.mk (KB8.out)
    have yB8_r5_0 := KB8_r5.out.cell (i := 0) rfl
    have yB8_r5_1 := KB8_r5.out.cell (i := 1) rfl
    have yB8_r5_2 := KB8_r5.out.cell (i := 2) rfl
    go_region_held3 (fun w' => w'.cell? ⟨w.heap.size, 0, none⟩ = some (.bool (dneg v0)) ∧ w'.cell? ⟨w.heap.size, 1, none⟩ = some (.slice A0 (digs (dm v0)).length c0) ∧ w'.cell? ⟨w.heap.size, 2, none⟩ = some (.int .i64 (de v0)) ∧ w'.cell? ⟨w.heap.size + 1, 0, none⟩ = some (.bool (dneg v1)) ∧ w'.cell? ⟨w.heap.size + 1, 1, none⟩ = some (.slice A1 (digs (dm v1)).length c1) ∧ w'.cell? ⟨w.heap.size + 1, 2, none⟩ = some (.int .i64 (de v1)) ∧ w'.cell? ⟨w3.heap.size, 0, none⟩ = some (.bool (dneg (shiftD v0 a2))) ∧ w'.cell? ⟨w3.heap.size, 1, none⟩ = some (.slice A3 (digs (dm (shiftD v0 a2))).length c3) ∧ w'.cell? ⟨w3.heap.size, 2, none⟩ = some (.int .i64 (de (shiftD v0 a2))))
      (first
        | go_keep
        | (go_split_ands
           refine ⟨?_, ?_, ?_, ?_, ?_, ?_, ?_, ?_, ?_⟩ <;> (apply Bel.cell (by assumption); assumption))
        | (all_goals (go_split_ands; apply Bel.cell (by assumption); assumption)))
      (first
        | (go_at_call 17; (with_reducible refine (F6.rRight' (n3.bel (((Bel.refl _).alloc (.cells #[.bool (dneg (shiftD v0 a2)), .slice A3 (digs (dm (shiftD v0 a2))).length c3, .int .i64 (de (shiftD v0 a2))] 24)).drew)) (by omega) (by omega) (by rw [F6.dm_shift]; omega)).mono ?_); rintro e w4 ⟨rfl, b4⟩)
        | (go_at_call 30; (with_reducible refine (F1.dShift (TT.out.bel (g0.trans ((((((((Bel.refl _).trans b1).alloc (.cells #[.bool (dneg v0), .slice A0 (digs (dm v0)).length c0, .int .i64 (de v0), .bool (dneg v1), .slice A1 (digs (dm v1)).length c1, .int .i64 (de v1)] 24)).trans b2).trans b3).alloc (.cells #[.bool (dneg (shiftD v0 a2)), .slice A3 (digs (dm (shiftD v0 a2))).length c3, .int .i64 (de (shiftD v0 a2))] 24)).drew).trans b4))) (n3.bel ((((Bel.refl _).alloc (.cells #[.bool (dneg (shiftD v0 a2)), .slice A3 (digs (dm (shiftD v0 a2))).length c3, .int .i64 (de (shiftD v0 a2))] 24)).drew).trans b4)) (-a2) 500 (by omega) (by omega) (by omega) (by omega)).mono ?_); rintro e w5 ⟨A5, c5, rfl, n5, b5⟩)
        | (go_at_call 19; (with_reducible refine (F1.same n5 ((p0.bel g0).bel (((((((((Bel.refl _).trans b1).alloc (.cells #[.bool (dneg v0), .slice A0 (digs (dm v0)).length c0, .int .i64 (de v0), .bool (dneg v1), .slice A1 (digs (dm v1)).length c1, .int .i64 (de v1)] 24)).trans b2).trans b3).alloc (.cells #[.bool (dneg (shiftD v0 a2)), .slice A3 (digs (dm (shiftD v0 a2))).length c3, .int .i64 (de (shiftD v0 a2))] 24)).drew).trans b4).trans b5)) (F6.shift_back wd0 hk0 (by omega))).mono ?_); rintro e w6 ⟨rfl, b6⟩)
        | (go_at_call 22; (with_reducible refine (F6.dMulLit (TT.out.bel (g0.trans (((((((((((Bel.refl _).trans b1).alloc (.cells #[.bool (dneg v0), .slice A0 (digs (dm v0)).length c0, .int .i64 (de v0), .bool (dneg v1), .slice A1 (digs (dm v1)).length c1, .int .i64 (de v1)] 24)).trans b2).trans b3).alloc (.cells #[.bool (dneg (shiftD v0 a2)), .slice A3 (digs (dm (shiftD v0 a2))).length c3, .int .i64 (de (shiftD v0 a2))] 24)).drew).trans b4).trans b5).trans b6).alloc (.cells #[.int .i64 1] 3)))) ((p0.bel g0).bel (((((((((((Bel.refl _).trans b1).alloc (.cells #[.bool (dneg v0), .slice A0 (digs (dm v0)).length c0, .int .i64 (de v0), .bool (dneg v1), .slice A1 (digs (dm v1)).length c1, .int .i64 (de v1)] 24)).trans b2).trans b3).alloc (.cells #[.bool (dneg (shiftD v0 a2)), .slice A3 (digs (dm (shiftD v0 a2))).length c3, .int .i64 (de (shiftD v0 a2))] 24)).drew).trans b4).trans b5).trans b6).alloc (.cells #[.int .i64 1] 3))) (n := false) (x := 1) (F0.litRd _ 1) (e := a2) (L' := 600) (U' := 600) rfl (by decide) (by decide) (by omega) (by omega) (by omega) (by omega) (Nat.le_refl _)).mono ?_); rintro e w7 ⟨A7, c7, rfl, n7, b7⟩)
        | (go_at_call 19; (with_reducible refine (F1.same (n3.bel ((((((((Bel.refl _).alloc (.cells #[.bool (dneg (shiftD v0 a2)), .slice A3 (digs (dm (shiftD v0 a2))).length c3, .int .i64 (de (shiftD v0 a2))] 24)).drew).trans b4).trans b5).trans b6).alloc (.cells #[.int .i64 1] 3)).trans b7)) n7 (F6.shift_mul wd0 hk0 (by omega))).mono ?_); rintro e w8 ⟨rfl, b8⟩)
        | (go_at_call 30; (with_reducible refine (F1.dShift (TT.out.bel (g0.trans (((((((((((((Bel.refl _).trans b1).alloc (.cells #[.bool (dneg v0), .slice A0 (digs (dm v0)).length c0, .int .i64 (de v0), .bool (dneg v1), .slice A1 (digs (dm v1)).length c1, .int .i64 (de v1)] 24)).trans b2).trans b3).alloc (.cells #[.bool (dneg (shiftD v0 a2)), .slice A3 (digs (dm (shiftD v0 a2))).length c3, .int .i64 (de (shiftD v0 a2))] 24)).drew).trans b4).trans b5).trans b6).alloc (.cells #[.int .i64 1] 3)).trans b7).trans b8))) ((p1.bel g0).bel (((((((((((((Bel.refl _).trans b1).alloc (.cells #[.bool (dneg v0), .slice A0 (digs (dm v0)).length c0, .int .i64 (de v0), .bool (dneg v1), .slice A1 (digs (dm v1)).length c1, .int .i64 (de v1)] 24)).trans b2).trans b3).alloc (.cells #[.bool (dneg (shiftD v0 a2)), .slice A3 (digs (dm (shiftD v0 a2))).length c3, .int .i64 (de (shiftD v0 a2))] 24)).drew).trans b4).trans b5).trans b6).alloc (.cells #[.int .i64 1] 3)).trans b7).trans b8)) a2 500 (by omega) (by omega) (by omega) (by omega)).mono ?_); rintro e w9 ⟨A9, c9, rfl, n9, b9⟩)
        | (go_at_call 24; (with_reducible refine (F1.dCmp (TT.out.bel (g0.trans ((((((((((((((Bel.refl _).trans b1).alloc (.cells #[.bool (dneg v0), .slice A0 (digs (dm v0)).length c0, .int .i64 (de v0), .bool (dneg v1), .slice A1 (digs (dm v1)).length c1, .int .i64 (de v1)] 24)).trans b2).trans b3).alloc (.cells #[.bool (dneg (shiftD v0 a2)), .slice A3 (digs (dm (shiftD v0 a2))).length c3, .int .i64 (de (shiftD v0 a2))] 24)).drew).trans b4).trans b5).trans b6).alloc (.cells #[.int .i64 1] 3)).trans b7).trans b8).trans b9))) (n3.bel ((((((((((Bel.refl _).alloc (.cells #[.bool (dneg (shiftD v0 a2)), .slice A3 (digs (dm (shiftD v0 a2))).length c3, .int .i64 (de (shiftD v0 a2))] 24)).drew).trans b4).trans b5).trans b6).alloc (.cells #[.int .i64 1] 3)).trans b7).trans b8).trans b9)) n9 (by omega) (by omega) (r := x) ((F6.shift_cmp wd0 wd1 hk0 (by omega) (by omega)).trans HX.out)).mono ?_); rintro e w10 ⟨rfl, b10⟩)
        | (go_at_call 24; (with_reducible refine (F1.dCmp (TT.out.bel (g0.trans (((((((((((((((Bel.refl _).trans b1).alloc (.cells #[.bool (dneg v0), .slice A0 (digs (dm v0)).length c0, .int .i64 (de v0), .bool (dneg v1), .slice A1 (digs (dm v1)).length c1, .int .i64 (de v1)] 24)).trans b2).trans b3).alloc (.cells #[.bool (dneg (shiftD v0 a2)), .slice A3 (digs (dm (shiftD v0 a2))).length c3, .int .i64 (de (shiftD v0 a2))] 24)).drew).trans b4).trans b5).trans b6).alloc (.cells #[.int .i64 1] 3)).trans b7).trans b8).trans b9).trans b10))) ((p0.bel g0).bel (((((((((((((((Bel.refl _).trans b1).alloc (.cells #[.bool (dneg v0), .slice A0 (digs (dm v0)).length c0, .int .i64 (de v0), .bool (dneg v1), .slice A1 (digs (dm v1)).length c1, .int .i64 (de v1)] 24)).trans b2).trans b3).alloc (.cells #[.bool (dneg (shiftD v0 a2)), .slice A3 (digs (dm (shiftD v0 a2))).length c3, .int .i64 (de (shiftD v0 a2))] 24)).drew).trans b4).trans b5).trans b6).alloc (.cells #[.int .i64 1] 3)).trans b7).trans b8).trans b9).trans b10)) ((p1.bel g0).bel (((((((((((((((Bel.refl _).trans b1).alloc (.cells #[.bool (dneg v0), .slice A0 (digs (dm v0)).length c0, .int .i64 (de v0), .bool (dneg v1), .slice A1 (digs (dm v1)).length c1, .int .i64 (de v1)] 24)).trans b2).trans b3).alloc (.cells #[.bool (dneg (shiftD v0 a2)), .slice A3 (digs (dm (shiftD v0 a2))).length c3, .int .i64 (de (shiftD v0 a2))] 24)).drew).trans b4).trans b5).trans b6).alloc (.cells #[.int .i64 1] 3)).trans b7).trans b8).trans b9).trans b10)) (by omega) (by omega) (r := x) HX.out).mono ?_); rintro e w11 ⟨rfl, b11⟩)
        | (go_at_call 20; (with_reducible refine (F1.dAdd (TT.out.bel (g0.trans ((((((((((((((((Bel.refl _).trans b1).alloc (.cells #[.bool (dneg v0), .slice A0 (digs (dm v0)).length c0, .int .i64 (de v0), .bool (dneg v1), .slice A1 (digs (dm v1)).length c1, .int .i64 (de v1)] 24)).trans b2).trans b3).alloc (.cells #[.bool (dneg (shiftD v0 a2)), .slice A3 (digs (dm (shiftD v0 a2))).length c3, .int .i64 (de (shiftD v0 a2))] 24)).drew).trans b4).trans b5).trans b6).alloc (.cells #[.int .i64 1] 3)).trans b7).trans b8).trans b9).trans b10).trans b11))) ((p0.bel g0).bel ((((((((((((((((Bel.refl _).trans b1).alloc (.cells #[.bool (dneg v0), .slice A0 (digs (dm v0)).length c0, .int .i64 (de v0), .bool (dneg v1), .slice A1 (digs (dm v1)).length c1, .int .i64 (de v1)] 24)).trans b2).trans b3).alloc (.cells #[.bool (dneg (shiftD v0 a2)), .slice A3 (digs (dm (shiftD v0 a2))).length c3, .int .i64 (de (shiftD v0 a2))] 24)).drew).trans b4).trans b5).trans b6).alloc (.cells #[.int .i64 1] 3)).trans b7).trans b8).trans b9).trans b10).trans b11)) ((p0.bel g0).bel ((((((((((((((((Bel.refl _).trans b1).alloc (.cells #[.bool (dneg v0), .slice A0 (digs (dm v0)).length c0, .int .i64 (de v0), .bool (dneg v1), .slice A1 (digs (dm v1)).length c1, .int .i64 (de v1)] 24)).trans b2).trans b3).alloc (.cells #[.bool (dneg (shiftD v0 a2)), .slice A3 (digs (dm (shiftD v0 a2))).length c3, .int .i64 (de (shiftD v0 a2))] 24)).drew).trans b4).trans b5).trans b6).alloc (.cells #[.int .i64 1] 3)).trans b7).trans b8).trans b9).trans b10).trans b11)) (by omega) (by omega)).mono ?_); rintro e w12 ⟨A12, c12, rfl, n12, b12⟩)
        | (go_at_call 30; (with_reducible refine (F1.dShift (TT.out.bel (g0.trans (((((((((((((((((Bel.refl _).trans b1).alloc (.cells #[.bool (dneg v0), .slice A0 (digs (dm v0)).length c0, .int .i64 (de v0), .bool (dneg v1), .slice A1 (digs (dm v1)).length c1, .int .i64 (de v1)] 24)).trans b2).trans b3).alloc (.cells #[.bool (dneg (shiftD v0 a2)), .slice A3 (digs (dm (shiftD v0 a2))).length c3, .int .i64 (de (shiftD v0 a2))] 24)).drew).trans b4).trans b5).trans b6).alloc (.cells #[.int .i64 1] 3)).trans b7).trans b8).trans b9).trans b10).trans b11).trans b12))) ((p0.bel g0).bel (((((((((((((((((Bel.refl _).trans b1).alloc (.cells #[.bool (dneg v0), .slice A0 (digs (dm v0)).length c0, .int .i64 (de v0), .bool (dneg v1), .slice A1 (digs (dm v1)).length c1, .int .i64 (de v1)] 24)).trans b2).trans b3).alloc (.cells #[.bool (dneg (shiftD v0 a2)), .slice A3 (digs (dm (shiftD v0 a2))).length c3, .int .i64 (de (shiftD v0 a2))] 24)).drew).trans b4).trans b5).trans b6).alloc (.cells #[.int .i64 1] 3)).trans b7).trans b8).trans b9).trans b10).trans b11).trans b12)) 1 1 (by omega) (by omega) (by omega) (by omega)).mono ?_); rintro e w13 ⟨A13, c13, rfl, n13, b13⟩)
        | (go_at_call 19; (with_reducible refine (F1.same (n12.bel ((Bel.refl _).trans b13)) n13 (F6.shift_one _)).mono ?_); rintro e w14 ⟨rfl, b14⟩))
    have HE := Ho.mk (g0.trans (((((((((((((((((((Bel.refl _).trans b1).alloc (.cells #[.bool (dneg v0), .slice A0 (digs (dm v0)).length c0, .int .i64 (de v0), .bool (dneg v1), .slice A1 (digs (dm v1)).length c1, .int .i64 (de v1)] 24)).trans b2).trans b3).alloc (.cells #[.bool (dneg (shiftD v0 a2)), .slice A3 (digs (dm (shiftD v0 a2))).length c3, .int .i64 (de (shiftD v0 a2))] 24)).drew).trans b4).trans b5).trans b6).alloc (.cells #[.int .i64 1] 3)).trans b7).trans b8).trans b9).trans b10).trans b11).trans b12).trans b13).trans b14))
    go_wp2
    go_ret
    exact ⟨rfl, HE.out⟩
theorem shift_out (n0 : Bool) (A0 : Option Addr) (c0 : Nat) (l0 : List Int) (e0 : Int) (n1 : Bool) (A1 : Option Addr) (c1 : Nat) (l1 : List Int) (e1 : Int) (a2 : Int) (w : World) (T : Tab w) (h0 : Rd w A0 l0) (k0 : l0.length ≤ c0) (h1 : Rd w A1 l1) (k1 : l1.length ≤ c1) (hk : a2 < -500 ∨ 500 < a2) :
    Calls Tryd.prog 7 #[.agg #[.bool n0, .slice A0 l0.length c0, .int .i64 e0], .agg #[.bool n1, .slice A1 l1.length c1, .int .i64 e1], .int .i64 a2] w (Tells w (.bool true)) := by
  have TT := Ho.mk T
  have HG := Ho.mk (shift_good n0 c0 e0 n1 c1 e1 h0 h1)
  clear T
  cases hg : (([⟨n0, A0, c0, l0, e0⟩, ⟨n1, A1, c1, l1, e1⟩] : List F2.DRow).all F2.goodB)
  · rw [hg] at HG
    clear hg
    rcases hk with hk | hk
    · have hka : decide (a2 < -500) = true := decide_eq_true hk
      go_enter Tryd.func7, Tryd.ntmps7
      go_wp2_with fail
      have KB0 := Ho.mk ((Blk.new w [.bool n0, .slice A0 l0.length c0, .int .i64 e0] 24).old (.cells #[.bool n1, .slice A1 l1.length c1, .int .i64 e1] 24))
      have KB1 := Ho.mk (Blk.new (w.alloc (.cells #[.bool n0, .slice A0 l0.length c0, .int .i64 e0] 24)) [.bool n1, .slice A1 l1.length c1, .int .i64 e1] 24)
      have g0 := ((Bel.refl w).alloc (.cells #[.bool n0, .slice A0 l0.length c0, .int .i64 e0] 24)).alloc (.cells #[.bool n1, .slice A1 l1.length c1, .int .i64 e1] 24)
      rw [World.size_alloc] at KB1
      have hZ : ((w.alloc (.cells #[.bool n0, .slice A0 l0.length c0, .int .i64 e0] 24)).alloc (.cells #[.bool n1, .slice A1 l1.length c1, .int .i64 e1] 24)) = ((w.alloc (.cells #[.bool n0, .slice A0 l0.length c0, .int .i64 e0] 24)).alloc (.cells #[.bool n1, .slice A1 l1.length c1, .int .i64 e1] 24)) := rfl
      generalize ((w.alloc (.cells #[.bool n0, .slice A0 l0.length c0, .int .i64 e0] 24)).alloc (.cells #[.bool n1, .slice A1 l1.length c1, .int .i64 e1] 24)) = w0 at *
      clear hZ
      (with_reducible refine (F3.head_calls _ (TT.out.bel g0)).mono ?_); rintro e w1 ⟨rfl, b1⟩
      have K0_1 := Ho.mk (KB0.out.bel b1)
      have y0_0 := K0_1.out.cell (i := 0) rfl
      have y0_1 := K0_1.out.cell (i := 1) rfl
      have y0_2 := K0_1.out.cell (i := 2) rfl
      have K1_1 := Ho.mk (KB1.out.bel b1)
      have y1_0 := K1_1.out.cell (i := 0) rfl
      have y1_1 := K1_1.out.cell (i := 1) rfl
      have y1_2 := K1_1.out.cell (i := 2) rfl
      go_wp2_with fail
      (with_reducible refine (HG.out _ (g0.trans b1)).mono ?_); rintro e w2 ⟨rfl, b2⟩
      have HE := Ho.mk (g0.trans ((b1.alloc _).trans b2))
      go_wp2
      go_ret
      exact ⟨rfl, HE.out⟩
    · have hka : decide (a2 < -500) = false := decide_eq_false (by omega)
      have hkb : decide (500 < a2) = true := decide_eq_true hk
      go_enter Tryd.func7, Tryd.ntmps7
      go_wp2_with fail
      have KB0 := Ho.mk ((Blk.new w [.bool n0, .slice A0 l0.length c0, .int .i64 e0] 24).old (.cells #[.bool n1, .slice A1 l1.length c1, .int .i64 e1] 24))
      have KB1 := Ho.mk (Blk.new (w.alloc (.cells #[.bool n0, .slice A0 l0.length c0, .int .i64 e0] 24)) [.bool n1, .slice A1 l1.length c1, .int .i64 e1] 24)
      have g0 := ((Bel.refl w).alloc (.cells #[.bool n0, .slice A0 l0.length c0, .int .i64 e0] 24)).alloc (.cells #[.bool n1, .slice A1 l1.length c1, .int .i64 e1] 24)
      rw [World.size_alloc] at KB1
      have hZ : ((w.alloc (.cells #[.bool n0, .slice A0 l0.length c0, .int .i64 e0] 24)).alloc (.cells #[.bool n1, .slice A1 l1.length c1, .int .i64 e1] 24)) = ((w.alloc (.cells #[.bool n0, .slice A0 l0.length c0, .int .i64 e0] 24)).alloc (.cells #[.bool n1, .slice A1 l1.length c1, .int .i64 e1] 24)) := rfl
      generalize ((w.alloc (.cells #[.bool n0, .slice A0 l0.length c0, .int .i64 e0] 24)).alloc (.cells #[.bool n1, .slice A1 l1.length c1, .int .i64 e1] 24)) = w0 at *
      clear hZ
      (with_reducible refine (F3.head_calls _ (TT.out.bel g0)).mono ?_); rintro e w1 ⟨rfl, b1⟩
      have K0_1 := Ho.mk (KB0.out.bel b1)
      have y0_0 := K0_1.out.cell (i := 0) rfl
      have y0_1 := K0_1.out.cell (i := 1) rfl
      have y0_2 := K0_1.out.cell (i := 2) rfl
      have K1_1 := Ho.mk (KB1.out.bel b1)
      have y1_0 := K1_1.out.cell (i := 0) rfl
      have y1_1 := K1_1.out.cell (i := 1) rfl
      have y1_2 := K1_1.out.cell (i := 2) rfl
      go_wp2_with fail
      (with_reducible refine (HG.out _ (g0.trans b1)).mono ?_); rintro e w2 ⟨rfl, b2⟩
      have HE := Ho.mk (g0.trans ((b1.alloc _).trans b2))
      go_wp2
      go_ret
      exact ⟨rfl, HE.out⟩
  · rw [hg] at HG
    clear hg
    rcases hk with hk | hk
    · have hka : decide (a2 < -500) = true := decide_eq_true hk
      go_enter Tryd.func7, Tryd.ntmps7
      go_wp2_with fail
      have KB0 := Ho.mk ((Blk.new w [.bool n0, .slice A0 l0.length c0, .int .i64 e0] 24).old (.cells #[.bool n1, .slice A1 l1.length c1, .int .i64 e1] 24))
      have KB1 := Ho.mk (Blk.new (w.alloc (.cells #[.bool n0, .slice A0 l0.length c0, .int .i64 e0] 24)) [.bool n1, .slice A1 l1.length c1, .int .i64 e1] 24)
      have g0 := ((Bel.refl w).alloc (.cells #[.bool n0, .slice A0 l0.length c0, .int .i64 e0] 24)).alloc (.cells #[.bool n1, .slice A1 l1.length c1, .int .i64 e1] 24)
      rw [World.size_alloc] at KB1
      have hZ : ((w.alloc (.cells #[.bool n0, .slice A0 l0.length c0, .int .i64 e0] 24)).alloc (.cells #[.bool n1, .slice A1 l1.length c1, .int .i64 e1] 24)) = ((w.alloc (.cells #[.bool n0, .slice A0 l0.length c0, .int .i64 e0] 24)).alloc (.cells #[.bool n1, .slice A1 l1.length c1, .int .i64 e1] 24)) := rfl
      generalize ((w.alloc (.cells #[.bool n0, .slice A0 l0.length c0, .int .i64 e0] 24)).alloc (.cells #[.bool n1, .slice A1 l1.length c1, .int .i64 e1] 24)) = w0 at *
      clear hZ
      (with_reducible refine (F3.head_calls _ (TT.out.bel g0)).mono ?_); rintro e w1 ⟨rfl, b1⟩
      have K0_1 := Ho.mk (KB0.out.bel b1)
      have y0_0 := K0_1.out.cell (i := 0) rfl
      have y0_1 := K0_1.out.cell (i := 1) rfl
      have y0_2 := K0_1.out.cell (i := 2) rfl
      have K1_1 := Ho.mk (KB1.out.bel b1)
      have y1_0 := K1_1.out.cell (i := 0) rfl
      have y1_1 := K1_1.out.cell (i := 1) rfl
      have y1_2 := K1_1.out.cell (i := 2) rfl
      go_wp2_with fail
      (with_reducible refine (HG.out _ (g0.trans b1)).mono ?_); rintro e w2 ⟨rfl, b2⟩
      have HE := Ho.mk (g0.trans ((b1.alloc _).trans b2))
      go_wp2
      go_ret
      exact ⟨rfl, HE.out⟩
    · have hka : decide (a2 < -500) = false := decide_eq_false (by omega)
      have hkb : decide (500 < a2) = true := decide_eq_true hk
      go_enter Tryd.func7, Tryd.ntmps7
      go_wp2_with fail
      have KB0 := Ho.mk ((Blk.new w [.bool n0, .slice A0 l0.length c0, .int .i64 e0] 24).old (.cells #[.bool n1, .slice A1 l1.length c1, .int .i64 e1] 24))
      have KB1 := Ho.mk (Blk.new (w.alloc (.cells #[.bool n0, .slice A0 l0.length c0, .int .i64 e0] 24)) [.bool n1, .slice A1 l1.length c1, .int .i64 e1] 24)
      have g0 := ((Bel.refl w).alloc (.cells #[.bool n0, .slice A0 l0.length c0, .int .i64 e0] 24)).alloc (.cells #[.bool n1, .slice A1 l1.length c1, .int .i64 e1] 24)
      rw [World.size_alloc] at KB1
      have hZ : ((w.alloc (.cells #[.bool n0, .slice A0 l0.length c0, .int .i64 e0] 24)).alloc (.cells #[.bool n1, .slice A1 l1.length c1, .int .i64 e1] 24)) = ((w.alloc (.cells #[.bool n0, .slice A0 l0.length c0, .int .i64 e0] 24)).alloc (.cells #[.bool n1, .slice A1 l1.length c1, .int .i64 e1] 24)) := rfl
      generalize ((w.alloc (.cells #[.bool n0, .slice A0 l0.length c0, .int .i64 e0] 24)).alloc (.cells #[.bool n1, .slice A1 l1.length c1, .int .i64 e1] 24)) = w0 at *
      clear hZ
      (with_reducible refine (F3.head_calls _ (TT.out.bel g0)).mono ?_); rintro e w1 ⟨rfl, b1⟩
      have K0_1 := Ho.mk (KB0.out.bel b1)
      have y0_0 := K0_1.out.cell (i := 0) rfl
      have y0_1 := K0_1.out.cell (i := 1) rfl
      have y0_2 := K0_1.out.cell (i := 2) rfl
      have K1_1 := Ho.mk (KB1.out.bel b1)
      have y1_0 := K1_1.out.cell (i := 0) rfl
      have y1_1 := K1_1.out.cell (i := 1) rfl
      have y1_2 := K1_1.out.cell (i := 2) rfl
      go_wp2_with fail
      (with_reducible refine (HG.out _ (g0.trans b1)).mono ?_); rintro e w2 ⟨rfl, b2⟩
      have HE := Ho.mk (g0.trans ((b1.alloc _).trans b2))
      go_wp2
      go_ret
      exact ⟨rfl, HE.out⟩
theorem all_calls (n0 : Bool) (A0 : Option Addr) (c0 : Nat) (l0 : List Int) (e0 : Int) (n1 : Bool) (A1 : Option Addr) (c1 : Nat) (l1 : List Int) (e1 : Int) (a2 : Int) (w : World) (T : Tab w) (h0 : Rd w A0 l0) (k0 : l0.length ≤ c0) (h1 : Rd w A1 l1) (k1 : l1.length ≤ c1) (b2 : -9223372036854775808 ≤ a2 ∧ a2 ≤ 9223372036854775807) :
    Calls Tryd.prog 7 #[.agg #[.bool n0, .slice A0 l0.length c0, .int .i64 e0], .agg #[.bool n1, .slice A1 l1.length c1, .int .i64 e1], .int .i64 a2] w (Tells w (.bool true)) := by
  by_cases h : -500 ≤ a2 ∧ a2 ≤ 500
  · exact shift_calls n0 A0 c0 l0 e0 n1 A1 c1 l1 e1 a2 w T h0 k0 h1 k1 h.1 h.2
  · exact shift_out n0 A0 c0 l0 e0 n1 A1 c1 l1 e1 a2 w T h0 k0 h1 k1 (by omega)
end Go.Proofs.YtnmjnjhijcnbcaaDoor.F9
