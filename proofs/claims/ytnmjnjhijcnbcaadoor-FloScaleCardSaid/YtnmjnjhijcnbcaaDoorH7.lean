/-
  The walk of FloScale (its steps are printed by gen2.py).
-/
import Derived.Test.YtnmjnjhijcnbcaaDoorH4
import Derived.Deep.RegionHeld3
import Derived.Deep.DrawnRows
import Derived.Deep.DeepCutAuto
set_option linter.unusedVariables false
set_option linter.unusedSimpArgs false
namespace Go.Proofs.YtnmjnjhijcnbcaaDoor.H7
open Ieee Go Go.RowKit Go.Proofs.YtnmjnjhijcnbcaaDoor Go.Proofs.YtnmjnjhijcnbcaaDoor.Ow Go.Proofs.YtnmjnjhijcnbcaaDoor.Pl Go.Proofs.YtnmjnjhijcnbcaaDoor.Dp Go.Proofs.YtnmjnjhijcnbcaaDoor.Dt Go.Proofs.YtnmjnjhijcnbcaaDoor.Gp Go.Proofs.YtnmjnjhijcnbcaaDoor.Gq Go.Proofs.YtnmjnjhijcnbcaaDoor.Gr Go.Proofs.YtnmjnjhijcnbcaaDoor.G1 Go.Proofs.YtnmjnjhijcnbcaaDoor.G3 Go.Proofs.YtnmjnjhijcnbcaaDoor.G5 Go.Proofs.YtnmjnjhijcnbcaaDoor.G7 Go.Proofs.YtnmjnjhijcnbcaaDoor.E7 Go.Proofs.YtnmjnjhijcnbcaaDoor.F1 Go.Proofs.YtnmjnjhijcnbcaaDoor.H0 Go.Proofs.YtnmjnjhijcnbcaaDoor.H4

attribute [local go_sem ↓] Go.wp_at_zero Go.wp_at_succ
theorem shift_cancel {u v k : Int} {L U : Nat} (hv : Wd v L U) (hL : L ≤ 20000) (k0 : -300 ≤ k) (h : u * 2 ^ 300 = v * 2 ^ (k + 300).toNat) : u = shiftD v k := by
  have e : shiftD v k * 2 ^ 300 = v * 2 ^ (k + 300).toNat := shiftD_eq v k 300 (by have := hv.e_ge; unfold K; omega) (by omega)
  rw [← h] at e
  exact (Int.eq_of_mul_eq_mul_right (Int.ne_of_gt (two_pos 300)) e).symm
theorem scale_fv {v k : Int} {L U : Nat} (hv : Wd v L U) (hL : L ≤ 20000) (k0 : -300 ≤ k) (k1 : k ≤ 300) (r0 : 423 * bn < nr v) (r1 : nr v < 1623 * bn) :
    frung (nw v) < infR ∧ frung (nw (shiftD v k)) < infR ∧ fv (nw (shiftD v k)) = shiftD (fv (nw v)) k := by
  have hi : 1623 * bn < infR := by decide
  have hf : frung (nw v) < infR := by rw [(nw_facts v).2.1]; omega
  have e : shiftD v k * 2 ^ 300 = v * 2 ^ (k + 300).toNat := shiftD_eq v k 300 (by have := hv.e_ge; unfold K; omega) (by omega)
  obtain ⟨s1, s2⟩ := scale (a := 300) (b := (k + 300).toNat) (by omega) e k0 k1 r0 r1
  refine ⟨hf, by rw [(nw_facts _).2.1]; exact s1, ?_⟩
  apply shift_cancel (wd_fv hf) (by decide) k0
  unfold fv
  rw [Int.mul_right_comm, s2, Int.mul_right_comm]
theorem c_rungs : frung 1905022642377719808 = 423 * bn ∧ frung 7309342195222315008 = 1623 * bn ∧ frung 11128394679232495616 = 423 * bn ∧ frung 16532714232077090816 = 1623 * bn ∧ fneg 1905022642377719808 = false ∧ fneg 7309342195222315008 = false ∧ fneg 11128394679232495616 = true ∧ fneg 16532714232077090816 = true := by decide
theorem cmp_gt {a c : Nat} (ha : a < 2 * sgnW) (hc : c < 2 * sgnW) (fa : frung a ≤ infR) (fc : frung c ≤ infR) : (FloatKind.f64.format.order a c == some .gt) = decide (V c < V a) := by
  rw [ord ha hc fa fc]
  rcases Int.lt_trichotomy (V a) (V c) with h | h | h
  · rw [c_lt h, decide_eq_false (by omega)]; rfl
  · rw [c_eq h, decide_eq_false (by omega)]; rfl
  · rw [c_gt h, decide_eq_true h]; rfl
theorem cmp_lt {a c : Nat} (ha : a < 2 * sgnW) (hc : c < 2 * sgnW) (fa : frung a ≤ infR) (fc : frung c ≤ infR) : (FloatKind.f64.format.order a c == some .lt) = decide (V a < V c) := by
  rw [ord ha hc fa fc]
  rcases Int.lt_trichotomy (V a) (V c) with h | h | h
  · rw [c_lt h, decide_eq_true h]; rfl
  · rw [c_eq h, decide_eq_false (by omega)]; rfl
  · rw [c_gt h, decide_eq_false (by omega)]; rfl
theorem V_of {b r : Nat} {n : Bool} (h1 : frung b = r) (h2 : fneg b = n) : V b = sv n (mag r) := by unfold V; rw [h1, h2]
/-- Between the bounds: the rung is. -/
theorem within {v : Int} (h : (V 1905022642377719808 < V (nw v) ∧ V (nw v) < V 7309342195222315008) ∨ (V (nw v) < V 11128394679232495616 ∧ V 16532714232077090816 < V (nw v))) : 423 * bn < nr v ∧ nr v < 1623 * bn := by
  obtain ⟨r1, r2, r3, r4, n1, n2, n3, n4⟩ := c_rungs
  rw [V_of r1 n1, V_of r2 n2, V_of r3 n3, V_of r4 n4, (nw_facts v).2.2] at h
  have h0 : 0 < mag (423 * bn) := by have := mag_mono (show 0 < 423 * bn by decide); rw [mag_zero] at this; exact this
  rw [← mag_lt, ← mag_lt (r := nr v)]
  generalize mag (423 * bn) = x at *
  generalize mag (1623 * bn) = y at *
  generalize mag (nr v) = z at *
  unfold sv at h
  cases dneg v <;> simp only [if_true, if_false, Bool.false_eq_true] at h <;> omega
set_option maxRecDepth 100000 in
set_option maxHeartbeats 8000000 in
theorem scale_off (n0 : Bool) (A0 : Option Addr) (c0 : Nat) (l0 : List Int) (e0 : Int) (a1 : Int) (w : World) (T : Tab w) (hr0 : Rd w A0 l0) (hg : H1.goodB n0 l0 e0 = false) :
    Calls Tryd.prog 14 #[.agg #[.bool n0, .slice A0 l0.length c0, .int .i64 e0], .int .i64 a1] w (Tells w (.bool true)) := by
  have TT := Ho.mk T
  have HG := Ho.mk (fun (W : World) (gw : Bel w W) => goodT n0 A0 c0 l0 e0 W (hr0.bel gw) hg)
  clear T hg
  go_enter Tryd.func14, Tryd.ntmps14
  go_wp2_with fail
  have KB0 := Ho.mk (Blk.new w [.bool n0, .slice A0 l0.length c0, .int .i64 e0] 24)
  have g0 := (Bel.refl w).alloc (.cells #[.bool n0, .slice A0 l0.length c0, .int .i64 e0] 24)
  have hZ : (w.alloc (.cells #[.bool n0, .slice A0 l0.length c0, .int .i64 e0] 24)) = (w.alloc (.cells #[.bool n0, .slice A0 l0.length c0, .int .i64 e0] 24)) := rfl
  generalize (w.alloc (.cells #[.bool n0, .slice A0 l0.length c0, .int .i64 e0] 24)) = w0 at *
  clear hZ
  (with_reducible refine (headT _ (TT.out.bel (g0.trans (Bel.refl _)))).mono ?_); rintro e w1 ⟨rfl, b1⟩
  have KB2_1 := Ho.mk ((KB0.out.bel ((Bel.refl _).trans b1)))
  have yB2_1_0 := KB2_1.out.cell (i := 0) rfl
  have yB2_1_1 := KB2_1.out.cell (i := 1) rfl
  have yB2_1_2 := KB2_1.out.cell (i := 2) rfl
  go_wp2_with fail
  (with_reducible refine ((HG.out _ (g0.trans ((Bel.refl _).trans b1)))).mono ?_); rintro e w2 ⟨rfl, b2⟩
  clear yB2_1_0 yB2_1_1 yB2_1_2
  all_goals
    have HE := Ho.mk (g0.trans (((Bel.refl _).trans b1).trans b2))
    go_wp2
    go_ret
    exact ⟨rfl, HE.out⟩
set_option maxRecDepth 100000 in
set_option maxHeartbeats 8000000 in
theorem scale_low {A0 : Option Addr} {c0 : Nat} {v0 : Int} (a1 : Int) (w : World) (T : Tab w) (p0 : Dv w A0 c0 v0 3000 3480) (hg : H1.goodB (dneg v0) (digs (dm v0)) (de v0) = true) (hk : a1 < -300) :
    Calls Tryd.prog 14 #[.agg #[.bool (dneg v0), .slice A0 (digs (dm v0)).length c0, .int .i64 (de v0)], .int .i64 a1] w (Tells w (.bool true)) := by
  have TT := Ho.mk T
  have HG := Ho.mk (fun (W : World) (gw : Bel w W) => goodT (dneg v0) A0 c0 (digs (dm v0)) (de v0) W (p0.rd.bel gw) hg)
  have d0 : decide (a1 < -300) = true := decide_eq_true hk
  clear hk
  clear T hg
  go_enter Tryd.func14, Tryd.ntmps14
  go_wp2_with fail
  have KB0 := Ho.mk (Blk.new w [.bool (dneg v0), .slice A0 (digs (dm v0)).length c0, .int .i64 (de v0)] 24)
  have g0 := (Bel.refl w).alloc (.cells #[.bool (dneg v0), .slice A0 (digs (dm v0)).length c0, .int .i64 (de v0)] 24)
  have hZ : (w.alloc (.cells #[.bool (dneg v0), .slice A0 (digs (dm v0)).length c0, .int .i64 (de v0)] 24)) = (w.alloc (.cells #[.bool (dneg v0), .slice A0 (digs (dm v0)).length c0, .int .i64 (de v0)] 24)) := rfl
  generalize (w.alloc (.cells #[.bool (dneg v0), .slice A0 (digs (dm v0)).length c0, .int .i64 (de v0)] 24)) = w0 at *
  clear hZ
  (with_reducible refine (headT _ (TT.out.bel (g0.trans (Bel.refl _)))).mono ?_); rintro e w1 ⟨rfl, b1⟩
  have KB2_1 := Ho.mk ((KB0.out.bel ((Bel.refl _).trans b1)))
  have yB2_1_0 := KB2_1.out.cell (i := 0) rfl
  have yB2_1_1 := KB2_1.out.cell (i := 1) rfl
  have yB2_1_2 := KB2_1.out.cell (i := 2) rfl
  go_wp2_with fail
  (with_reducible refine ((HG.out _ (g0.trans ((Bel.refl _).trans b1)))).mono ?_); rintro e w2 ⟨rfl, b2⟩
  clear yB2_1_0 yB2_1_1 yB2_1_2
  all_goals
    have HE := Ho.mk (g0.trans (((Bel.refl _).trans b1).trans b2))
    go_wp2
    go_ret
    exact ⟨rfl, HE.out⟩
set_option maxRecDepth 100000 in
set_option maxHeartbeats 8000000 in
theorem scale_high {A0 : Option Addr} {c0 : Nat} {v0 : Int} (a1 : Int) (w : World) (T : Tab w) (p0 : Dv w A0 c0 v0 3000 3480) (hg : H1.goodB (dneg v0) (digs (dm v0)) (de v0) = true) (hk : 300 < a1) :
    Calls Tryd.prog 14 #[.agg #[.bool (dneg v0), .slice A0 (digs (dm v0)).length c0, .int .i64 (de v0)], .int .i64 a1] w (Tells w (.bool true)) := by
  have TT := Ho.mk T
  have HG := Ho.mk (fun (W : World) (gw : Bel w W) => goodT (dneg v0) A0 c0 (digs (dm v0)) (de v0) W (p0.rd.bel gw) hg)
  have d0 : decide (a1 < -300) = false := decide_eq_false (by omega)
  have d1 : decide (300 < a1) = true := decide_eq_true hk
  clear hk
  clear T hg
  go_enter Tryd.func14, Tryd.ntmps14
  go_wp2_with fail
  have KB0 := Ho.mk (Blk.new w [.bool (dneg v0), .slice A0 (digs (dm v0)).length c0, .int .i64 (de v0)] 24)
  have g0 := (Bel.refl w).alloc (.cells #[.bool (dneg v0), .slice A0 (digs (dm v0)).length c0, .int .i64 (de v0)] 24)
  have hZ : (w.alloc (.cells #[.bool (dneg v0), .slice A0 (digs (dm v0)).length c0, .int .i64 (de v0)] 24)) = (w.alloc (.cells #[.bool (dneg v0), .slice A0 (digs (dm v0)).length c0, .int .i64 (de v0)] 24)) := rfl
  generalize (w.alloc (.cells #[.bool (dneg v0), .slice A0 (digs (dm v0)).length c0, .int .i64 (de v0)] 24)) = w0 at *
  clear hZ
  (with_reducible refine (headT _ (TT.out.bel (g0.trans (Bel.refl _)))).mono ?_); rintro e w1 ⟨rfl, b1⟩
  have KB2_1 := Ho.mk ((KB0.out.bel ((Bel.refl _).trans b1)))
  have yB2_1_0 := KB2_1.out.cell (i := 0) rfl
  have yB2_1_1 := KB2_1.out.cell (i := 1) rfl
  have yB2_1_2 := KB2_1.out.cell (i := 2) rfl
  go_wp2_with fail
  (with_reducible refine ((HG.out _ (g0.trans ((Bel.refl _).trans b1)))).mono ?_); rintro e w2 ⟨rfl, b2⟩
  clear yB2_1_0 yB2_1_1 yB2_1_2
  all_goals
    have HE := Ho.mk (g0.trans (((Bel.refl _).trans b1).trans b2))
    go_wp2
    go_ret
    exact ⟨rfl, HE.out⟩
set_option maxRecDepth 100000 in
set_option maxHeartbeats 8000000 in
theorem scale_no_fxfx {A0 : Option Addr} {c0 : Nat} {v0 : Int} (a1 : Int) (w : World) (T : Tab w) (p0 : Dv w A0 c0 v0 3000 3480) (hg : H1.goodB (dneg v0) (digs (dm v0)) (de v0) = true) (hk0 : -300 ≤ a1) (hk1 : a1 ≤ 300) (na : Nat) (hna : nw v0 = na) (hna2 : na < 2 * sgnW) (q0 : (FloatKind.f64.format.order na 1905022642377719808 == some .gt) = false) (q2 : (FloatKind.f64.format.order na 11128394679232495616 == some .lt) = false) :
    Calls Tryd.prog 14 #[.agg #[.bool (dneg v0), .slice A0 (digs (dm v0)).length c0, .int .i64 (de v0)], .int .i64 a1] w (Tells w (.bool true)) := by
  have TT := Ho.mk T
  have HG := Ho.mk (fun (W : World) (gw : Bel w W) => goodT (dneg v0) A0 c0 (digs (dm v0)) (de v0) W (p0.rd.bel gw) hg)
  have d0 : decide (a1 < -300) = false := decide_eq_false (by omega)
  have d1 : decide (300 < a1) = false := decide_eq_false (by omega)
  have HNA := Ho.mk hna
  clear hna hna2
  clear T hg
  go_enter Tryd.func14, Tryd.ntmps14
  go_wp2_with fail
  have KB0 := Ho.mk (Blk.new w [.bool (dneg v0), .slice A0 (digs (dm v0)).length c0, .int .i64 (de v0)] 24)
  have g0 := (Bel.refl w).alloc (.cells #[.bool (dneg v0), .slice A0 (digs (dm v0)).length c0, .int .i64 (de v0)] 24)
  have hZ : (w.alloc (.cells #[.bool (dneg v0), .slice A0 (digs (dm v0)).length c0, .int .i64 (de v0)] 24)) = (w.alloc (.cells #[.bool (dneg v0), .slice A0 (digs (dm v0)).length c0, .int .i64 (de v0)] 24)) := rfl
  generalize (w.alloc (.cells #[.bool (dneg v0), .slice A0 (digs (dm v0)).length c0, .int .i64 (de v0)] 24)) = w0 at *
  clear hZ
  (with_reducible refine (headT _ (TT.out.bel (g0.trans (Bel.refl _)))).mono ?_); rintro e w1 ⟨rfl, b1⟩
  have KB2_1 := Ho.mk ((KB0.out.bel ((Bel.refl _).trans b1)))
  have yB2_1_0 := KB2_1.out.cell (i := 0) rfl
  have yB2_1_1 := KB2_1.out.cell (i := 1) rfl
  have yB2_1_2 := KB2_1.out.cell (i := 2) rfl
  go_wp2_with fail
  (with_reducible refine ((HG.out _ (g0.trans ((Bel.refl _).trans b1)))).mono ?_); rintro e w2 ⟨rfl, b2⟩
  clear yB2_1_0 yB2_1_1 yB2_1_2
  have KB2_2 := Ho.mk ((KB2_1.out.bel ((Bel.refl _).trans b2)))
  have yB2_2_0 := KB2_2.out.cell (i := 0) rfl
  have yB2_2_1 := KB2_2.out.cell (i := 1) rfl
  have yB2_2_2 := KB2_2.out.cell (i := 2) rfl
  go_wp2_with fail
  (with_reducible refine (nearD ((p0.bel g0).bel (((Bel.refl _).trans b1).trans b2)) (by omega) (by omega) (r := na) HNA.out).mono ?_); rintro e w3 ⟨rfl, b3⟩
  clear yB2_2_0 yB2_2_1 yB2_2_2
  all_goals
    have HE := Ho.mk (g0.trans ((((Bel.refl _).trans b1).trans b2).trans b3))
    go_wp2
    go_ret
    exact ⟨rfl, HE.out⟩
set_option maxRecDepth 100000 in
set_option maxHeartbeats 8000000 in
theorem scale_no_fxtf {A0 : Option Addr} {c0 : Nat} {v0 : Int} (a1 : Int) (w : World) (T : Tab w) (p0 : Dv w A0 c0 v0 3000 3480) (hg : H1.goodB (dneg v0) (digs (dm v0)) (de v0) = true) (hk0 : -300 ≤ a1) (hk1 : a1 ≤ 300) (na : Nat) (hna : nw v0 = na) (hna2 : na < 2 * sgnW) (q0 : (FloatKind.f64.format.order na 1905022642377719808 == some .gt) = false) (q2 : (FloatKind.f64.format.order na 11128394679232495616 == some .lt) = true) (q3 : (FloatKind.f64.format.order na 16532714232077090816 == some .gt) = false) :
    Calls Tryd.prog 14 #[.agg #[.bool (dneg v0), .slice A0 (digs (dm v0)).length c0, .int .i64 (de v0)], .int .i64 a1] w (Tells w (.bool true)) := by
  have TT := Ho.mk T
  have HG := Ho.mk (fun (W : World) (gw : Bel w W) => goodT (dneg v0) A0 c0 (digs (dm v0)) (de v0) W (p0.rd.bel gw) hg)
  have d0 : decide (a1 < -300) = false := decide_eq_false (by omega)
  have d1 : decide (300 < a1) = false := decide_eq_false (by omega)
  have HNA := Ho.mk hna
  clear hna hna2
  clear T hg
  go_enter Tryd.func14, Tryd.ntmps14
  go_wp2_with fail
  have KB0 := Ho.mk (Blk.new w [.bool (dneg v0), .slice A0 (digs (dm v0)).length c0, .int .i64 (de v0)] 24)
  have g0 := (Bel.refl w).alloc (.cells #[.bool (dneg v0), .slice A0 (digs (dm v0)).length c0, .int .i64 (de v0)] 24)
  have hZ : (w.alloc (.cells #[.bool (dneg v0), .slice A0 (digs (dm v0)).length c0, .int .i64 (de v0)] 24)) = (w.alloc (.cells #[.bool (dneg v0), .slice A0 (digs (dm v0)).length c0, .int .i64 (de v0)] 24)) := rfl
  generalize (w.alloc (.cells #[.bool (dneg v0), .slice A0 (digs (dm v0)).length c0, .int .i64 (de v0)] 24)) = w0 at *
  clear hZ
  (with_reducible refine (headT _ (TT.out.bel (g0.trans (Bel.refl _)))).mono ?_); rintro e w1 ⟨rfl, b1⟩
  have KB2_1 := Ho.mk ((KB0.out.bel ((Bel.refl _).trans b1)))
  have yB2_1_0 := KB2_1.out.cell (i := 0) rfl
  have yB2_1_1 := KB2_1.out.cell (i := 1) rfl
  have yB2_1_2 := KB2_1.out.cell (i := 2) rfl
  go_wp2_with fail
  (with_reducible refine ((HG.out _ (g0.trans ((Bel.refl _).trans b1)))).mono ?_); rintro e w2 ⟨rfl, b2⟩
  clear yB2_1_0 yB2_1_1 yB2_1_2
  have KB2_2 := Ho.mk ((KB2_1.out.bel ((Bel.refl _).trans b2)))
  have yB2_2_0 := KB2_2.out.cell (i := 0) rfl
  have yB2_2_1 := KB2_2.out.cell (i := 1) rfl
  have yB2_2_2 := KB2_2.out.cell (i := 2) rfl
  go_wp2_with fail
  (with_reducible refine (nearD ((p0.bel g0).bel (((Bel.refl _).trans b1).trans b2)) (by omega) (by omega) (r := na) HNA.out).mono ?_); rintro e w3 ⟨rfl, b3⟩
  clear yB2_2_0 yB2_2_1 yB2_2_2
  all_goals
    have HE := Ho.mk (g0.trans ((((Bel.refl _).trans b1).trans b2).trans b3))
    go_wp2
    go_ret
    exact ⟨rfl, HE.out⟩
set_option maxRecDepth 100000 in
set_option maxHeartbeats 8000000 in
theorem scale_no_tffx {A0 : Option Addr} {c0 : Nat} {v0 : Int} (a1 : Int) (w : World) (T : Tab w) (p0 : Dv w A0 c0 v0 3000 3480) (hg : H1.goodB (dneg v0) (digs (dm v0)) (de v0) = true) (hk0 : -300 ≤ a1) (hk1 : a1 ≤ 300) (na : Nat) (hna : nw v0 = na) (hna2 : na < 2 * sgnW) (q0 : (FloatKind.f64.format.order na 1905022642377719808 == some .gt) = true) (q1 : (FloatKind.f64.format.order na 7309342195222315008 == some .lt) = false) (q2 : (FloatKind.f64.format.order na 11128394679232495616 == some .lt) = false) :
    Calls Tryd.prog 14 #[.agg #[.bool (dneg v0), .slice A0 (digs (dm v0)).length c0, .int .i64 (de v0)], .int .i64 a1] w (Tells w (.bool true)) := by
  have TT := Ho.mk T
  have HG := Ho.mk (fun (W : World) (gw : Bel w W) => goodT (dneg v0) A0 c0 (digs (dm v0)) (de v0) W (p0.rd.bel gw) hg)
  have d0 : decide (a1 < -300) = false := decide_eq_false (by omega)
  have d1 : decide (300 < a1) = false := decide_eq_false (by omega)
  have HNA := Ho.mk hna
  clear hna hna2
  clear T hg
  go_enter Tryd.func14, Tryd.ntmps14
  go_wp2_with fail
  have KB0 := Ho.mk (Blk.new w [.bool (dneg v0), .slice A0 (digs (dm v0)).length c0, .int .i64 (de v0)] 24)
  have g0 := (Bel.refl w).alloc (.cells #[.bool (dneg v0), .slice A0 (digs (dm v0)).length c0, .int .i64 (de v0)] 24)
  have hZ : (w.alloc (.cells #[.bool (dneg v0), .slice A0 (digs (dm v0)).length c0, .int .i64 (de v0)] 24)) = (w.alloc (.cells #[.bool (dneg v0), .slice A0 (digs (dm v0)).length c0, .int .i64 (de v0)] 24)) := rfl
  generalize (w.alloc (.cells #[.bool (dneg v0), .slice A0 (digs (dm v0)).length c0, .int .i64 (de v0)] 24)) = w0 at *
  clear hZ
  (with_reducible refine (headT _ (TT.out.bel (g0.trans (Bel.refl _)))).mono ?_); rintro e w1 ⟨rfl, b1⟩
  have KB2_1 := Ho.mk ((KB0.out.bel ((Bel.refl _).trans b1)))
  have yB2_1_0 := KB2_1.out.cell (i := 0) rfl
  have yB2_1_1 := KB2_1.out.cell (i := 1) rfl
  have yB2_1_2 := KB2_1.out.cell (i := 2) rfl
  go_wp2_with fail
  (with_reducible refine ((HG.out _ (g0.trans ((Bel.refl _).trans b1)))).mono ?_); rintro e w2 ⟨rfl, b2⟩
  clear yB2_1_0 yB2_1_1 yB2_1_2
  have KB2_2 := Ho.mk ((KB2_1.out.bel ((Bel.refl _).trans b2)))
  have yB2_2_0 := KB2_2.out.cell (i := 0) rfl
  have yB2_2_1 := KB2_2.out.cell (i := 1) rfl
  have yB2_2_2 := KB2_2.out.cell (i := 2) rfl
  go_wp2_with fail
  (with_reducible refine (nearD ((p0.bel g0).bel (((Bel.refl _).trans b1).trans b2)) (by omega) (by omega) (r := na) HNA.out).mono ?_); rintro e w3 ⟨rfl, b3⟩
  clear yB2_2_0 yB2_2_1 yB2_2_2
  all_goals
    have HE := Ho.mk (g0.trans ((((Bel.refl _).trans b1).trans b2).trans b3))
    go_wp2
    go_ret
    exact ⟨rfl, HE.out⟩
set_option maxRecDepth 100000 in
set_option maxHeartbeats 8000000 in
theorem scale_yes_ttxx {A0 : Option Addr} {c0 : Nat} {v0 : Int} (a1 : Int) (w : World) (T : Tab w) (p0 : Dv w A0 c0 v0 3000 3480) (hg : H1.goodB (dneg v0) (digs (dm v0)) (de v0) = true) (hk0 : -300 ≤ a1) (hk1 : a1 ≤ 300) (na : Nat) (hna : nw v0 = na) (hna2 : na < 2 * sgnW) (q0 : (FloatKind.f64.format.order na 1905022642377719808 == some .gt) = true) (q1 : (FloatKind.f64.format.order na 7309342195222315008 == some .lt) = true) (h1 : frung na < infR) (h2 : frung (nw (shiftD v0 a1)) < infR) (h3 : fv (nw (shiftD v0 a1)) = shiftD (fv na) a1) :
    Calls Tryd.prog 14 #[.agg #[.bool (dneg v0), .slice A0 (digs (dm v0)).length c0, .int .i64 (de v0)], .int .i64 a1] w (Tells w (.bool true)) := by
  have TT := Ho.mk T
  have HG := Ho.mk (fun (W : World) (gw : Bel w W) => goodT (dneg v0) A0 c0 (digs (dm v0)) (de v0) W (p0.rd.bel gw) hg)
  have d0 : decide (a1 < -300) = false := decide_eq_false (by omega)
  have d1 : decide (300 < a1) = false := decide_eq_false (by omega)
  have HNA := Ho.mk hna
  have HO1 := Ho.mk (fun (W : World) (gw : Bel w W) => ofD (b := na) hna2 W (T.bel gw) (v := fv na) (ok := true) (fin_of h1) (decide_eq_true h1).symm)
  have HO2 := Ho.mk (fun (W : World) (gw : Bel w W) => ofD (b := nw (shiftD v0 a1)) (nw_facts _).1 W (T.bel gw) (v := fv (nw (shiftD v0 a1))) (ok := true) (fin_of h2) (decide_eq_true h2).symm)
  have HEQ := Ho.mk h3
  clear h3
  obtain ⟨u2, hu2⟩ : ∃ u : Int, fv (nw (shiftD v0 a1)) = u := ⟨_, rfl⟩
  rw [hu2] at HO2 HEQ
  clear hu2
  obtain ⟨u1, hu1⟩ : ∃ u : Int, fv na = u := ⟨_, rfl⟩
  rw [hu1] at HO1 HEQ
  clear hu1
  obtain ⟨nb, hnb⟩ : ∃ n, nw (shiftD v0 a1) = n := ⟨_, rfl⟩
  rw [hnb] at HO2
  have HNB := Ho.mk hnb
  clear hnb h1 h2
  clear hna hna2
  clear T hg
  go_enter Tryd.func14, Tryd.ntmps14
  go_wp2_with fail
  have KB0 := Ho.mk (Blk.new w [.bool (dneg v0), .slice A0 (digs (dm v0)).length c0, .int .i64 (de v0)] 24)
  have g0 := (Bel.refl w).alloc (.cells #[.bool (dneg v0), .slice A0 (digs (dm v0)).length c0, .int .i64 (de v0)] 24)
  have hZ : (w.alloc (.cells #[.bool (dneg v0), .slice A0 (digs (dm v0)).length c0, .int .i64 (de v0)] 24)) = (w.alloc (.cells #[.bool (dneg v0), .slice A0 (digs (dm v0)).length c0, .int .i64 (de v0)] 24)) := rfl
  generalize (w.alloc (.cells #[.bool (dneg v0), .slice A0 (digs (dm v0)).length c0, .int .i64 (de v0)] 24)) = w0 at *
  clear hZ
  (with_reducible refine (headT _ (TT.out.bel (g0.trans (Bel.refl _)))).mono ?_); rintro e w1 ⟨rfl, b1⟩
  have KB2_1 := Ho.mk ((KB0.out.bel ((Bel.refl _).trans b1)))
  have yB2_1_0 := KB2_1.out.cell (i := 0) rfl
  have yB2_1_1 := KB2_1.out.cell (i := 1) rfl
  have yB2_1_2 := KB2_1.out.cell (i := 2) rfl
  go_wp2_with fail
  (with_reducible refine ((HG.out _ (g0.trans ((Bel.refl _).trans b1)))).mono ?_); rintro e w2 ⟨rfl, b2⟩
  clear yB2_1_0 yB2_1_1 yB2_1_2
  have KB2_2 := Ho.mk ((KB2_1.out.bel ((Bel.refl _).trans b2)))
  have yB2_2_0 := KB2_2.out.cell (i := 0) rfl
  have yB2_2_1 := KB2_2.out.cell (i := 1) rfl
  have yB2_2_2 := KB2_2.out.cell (i := 2) rfl
  go_wp2_with fail
  (with_reducible refine (nearD ((p0.bel g0).bel (((Bel.refl _).trans b1).trans b2)) (by omega) (by omega) (r := na) HNA.out).mono ?_); rintro e w3 ⟨rfl, b3⟩
  clear yB2_2_0 yB2_2_1 yB2_2_2
  go_wp2_with fail
  (with_reducible refine (HO1.out _ (g0.trans ((((Bel.refl _).trans b1).trans b2).trans b3))).mono ?_); rintro e w4 ⟨A4, c4, rfl, n4, b4⟩
  have KB7 := Ho.mk (Blk.new w4 [.bool (dneg u1), .slice A4 (digs (dm u1)).length c4, .int .i64 (de u1)] 24)
  have KB2_4x := Ho.mk ((KB2_2.out.bel ((((Bel.refl _).trans b3).trans b4).alloc (.cells #[.bool (dneg u1), .slice A4 (digs (dm u1)).length c4, .int .i64 (de u1)] 24))))
  have yB2_4x_0 := KB2_4x.out.cell (i := 0) rfl
  have yB2_4x_1 := KB2_4x.out.cell (i := 1) rfl
  have yB2_4x_2 := KB2_4x.out.cell (i := 2) rfl
  go_wp2_with fail
  (with_reducible refine (F1.rShift ((p0.bel g0).bel ((((((Bel.refl _).trans b1).trans b2).trans b3).trans b4).alloc (.cells #[.bool (dneg u1), .slice A4 (digs (dm u1)).length c4, .int .i64 (de u1)] 24))) a1 300 (by omega) (by omega) (by omega) (by omega)).mono ?_); rintro e w5 ⟨A5, c5, rfl, n5, b5⟩
  clear yB2_4x_0 yB2_4x_1 yB2_4x_2
  go_wp2_with fail
  (with_reducible refine (nearD n5 (by omega) (by omega) (r := nb) HNB.out).mono ?_); rintro e w6 ⟨rfl, b6⟩
  go_wp2_with fail
  (with_reducible refine (HO2.out _ (g0.trans ((((((((Bel.refl _).trans b1).trans b2).trans b3).trans b4).alloc (.cells #[.bool (dneg u1), .slice A4 (digs (dm u1)).length c4, .int .i64 (de u1)] 24)).trans b5).trans b6))).mono ?_); rintro e w7 ⟨A7, c7, rfl, n7, b7⟩
  have KB10 := Ho.mk (Blk.new w7 [.bool (dneg u2), .slice A7 (digs (dm u2)).length c7, .int .i64 (de u2)] 24)
  go_wp2_with fail
  have KB10_r10 := Ho.mk (KB10.out)
  have yB10_r10_0 := KB10_r10.out.cell (i := 0) rfl
  have yB10_r10_1 := KB10_r10.out.cell (i := 1) rfl
  have yB10_r10_2 := KB10_r10.out.cell (i := 2) rfl
  have KB7_r10 := Ho.mk ((KB7.out.bel (((((Bel.refl _).trans b5).trans b6).trans b7).alloc (.cells #[.bool (dneg u2), .slice A7 (digs (dm u2)).length c7, .int .i64 (de u2)] 24))))
  have yB7_r10_0 := KB7_r10.out.cell (i := 0) rfl
  have yB7_r10_1 := KB7_r10.out.cell (i := 1) rfl
  have yB7_r10_2 := KB7_r10.out.cell (i := 2) rfl
  refine wp_region_held_drew (S := fun w' => Bel (w7.alloc (.cells #[.bool (dneg u2), .slice A7 (digs (dm u2)).length c7, .int .i64 (de u2)] 24)) w') (by kernel_rfl) (Bel.refl _).drew (fun hHeld => ?_)
  (try dsimp only at hHeld)
  refine r_take (i := 0) (v := ?_) rfl (by kernel_rfl) (by kernel_rfl) (by kernel_rfl) (fun _ _ _ h => h) (by kernel_rfl) hHeld ?_ ?_
  rotate_left
  · (intro w hSw; go_simp; try (with_reducible rfl))
  try simp only [Act.put, List.setIfInBounds_toArray, List.set_cons_zero, List.set_cons_succ]
  refine r_take (i := 1) (v := ?_) rfl (by kernel_rfl) (by kernel_rfl) (by kernel_rfl) (fun _ _ _ h => h) (by kernel_rfl) hHeld ?_ ?_
  rotate_left
  · (intro w hSw; go_simp; try (with_reducible rfl))
  try simp only [Act.put, List.setIfInBounds_toArray, List.set_cons_zero, List.set_cons_succ]
  refine r_take (i := 2) (v := ?_) rfl (by kernel_rfl) (by kernel_rfl) (by kernel_rfl) (fun _ _ _ h => h) (by kernel_rfl) hHeld ?_ ?_
  rotate_left
  · (intro w hSw; go_simp; try (with_reducible rfl))
  try simp only [Act.put, List.setIfInBounds_toArray, List.set_cons_zero, List.set_cons_succ]
  refine r_take (i := 3) (v := ?_) rfl (by kernel_rfl) (by kernel_rfl) (by kernel_rfl) (fun _ _ _ h => h) (by kernel_rfl) hHeld ?_ ?_
  rotate_left
  · (intro w hSw; go_simp; try (with_reducible rfl))
  try simp only [Act.put, List.setIfInBounds_toArray, List.set_cons_zero, List.set_cons_succ]
  refine r_take (i := 4) (v := ?_) rfl (by kernel_rfl) (by kernel_rfl) (by kernel_rfl) (fun _ _ _ h => h) (by kernel_rfl) hHeld ?_ ?_
  rotate_left
  · (intro w hSw; go_simp; try (with_reducible rfl))
  try simp only [Act.put, List.setIfInBounds_toArray, List.set_cons_zero, List.set_cons_succ]
  refine r_take (i := 5) (v := ?_) rfl (by kernel_rfl) (by kernel_rfl) (by kernel_rfl) (fun _ _ _ h => h) (by kernel_rfl) hHeld ?_ ?_
  rotate_left
  · (intro w hSw; go_simp; try (with_reducible rfl))
  try simp only [Act.put, List.setIfInBounds_toArray, List.set_cons_zero, List.set_cons_succ]
  refine r_take (i := 6) (v := ?_) rfl (by kernel_rfl) (by kernel_rfl) (by kernel_rfl) (fun _ _ _ h => h) (by kernel_rfl) hHeld ?_ ?_
  rotate_left
  · (intro w hSw; go_simp; try (with_reducible rfl))
  try simp only [Act.put, List.setIfInBounds_toArray, List.set_cons_zero, List.set_cons_succ]
  refine r_take (i := 7) (v := ?_) rfl (by kernel_rfl) (by kernel_rfl) (by kernel_rfl) (fun _ _ _ h => h) (by kernel_rfl) hHeld ?_ ?_
  rotate_left
  · (intro w hSw; go_simp; try (with_reducible rfl))
  try simp only [Act.put, List.setIfInBounds_toArray, List.set_cons_zero, List.set_cons_succ]
  refine r_take (i := 8) (v := ?_) rfl (by kernel_rfl) (by kernel_rfl) (by kernel_rfl) (fun _ _ _ h => h) (by kernel_rfl) hHeld ?_ ?_
  rotate_left
  · (intro w hSw; have z0 := Bel.cell hSw yB10_r10_0; have z1 := Bel.cell hSw yB10_r10_1; have z2 := Bel.cell hSw yB10_r10_2; go_simp; try (with_reducible rfl))
  try simp only [Act.put, List.setIfInBounds_toArray, List.set_cons_zero, List.set_cons_succ]
  refine r_take (i := 9) (v := ?_) rfl (by kernel_rfl) (by kernel_rfl) (by kernel_rfl) (fun _ _ _ h => h) (by kernel_rfl) hHeld ?_ ?_
  rotate_left
  · (intro w hSw; have z0 := Bel.cell hSw yB7_r10_0; have z1 := Bel.cell hSw yB7_r10_1; have z2 := Bel.cell hSw yB7_r10_2; go_simp; try (with_reducible rfl))
  try simp only [Act.put, List.setIfInBounds_toArray, List.set_cons_zero, List.set_cons_succ]
  refine r_take (i := 10) (v := ?_) rfl (by kernel_rfl) (by kernel_rfl) (by kernel_rfl) (fun _ _ _ h => h) (by kernel_rfl) hHeld ?_ ?_
  rotate_left
  · (intro w hSw; go_simp; try (with_reducible rfl))
  try simp only [Act.put, List.setIfInBounds_toArray, List.set_cons_zero, List.set_cons_succ]
  refine r_call (i := 11) (by kernel_rfl) rfl (by kernel_rfl) (fun K hK => ?_)
  go_simp
  go_at_call 31
  (with_reducible refine (F1.rShift (n4.bel (((((((Bel.refl _).alloc (.cells #[.bool (dneg u1), .slice A4 (digs (dm u1)).length c4, .int .i64 (de u1)] 24)).trans b5).trans b6).trans b7).alloc (.cells #[.bool (dneg u2), .slice A7 (digs (dm u2)).length c7, .int .i64 (de u2)] 24)).drew)) a1 300 (by omega) (by omega) (by omega) (by omega)).mono ?_); rintro e w8 ⟨A8, c8, rfl, n8, b8⟩
  try go_wp2_with fail
  refine hK.out _ _ (Bel.trans hHeld b8) (fun hHeld => ?_)
  clear hK K
  try simp only [Act.put, List.setIfInBounds_toArray, List.set_cons_zero, List.set_cons_succ]
  refine r_call (i := 12) (by kernel_rfl) rfl (by kernel_rfl) (fun K hK => ?_)
  go_simp
  go_at_call 19
  (with_reducible refine (F1.same (n7.bel ((((Bel.refl _).alloc (.cells #[.bool (dneg u2), .slice A7 (digs (dm u2)).length c7, .int .i64 (de u2)] 24)).drew).trans b8)) n8 HEQ.out).mono ?_); rintro e w9 ⟨rfl, b9⟩
  try go_wp2_with fail
  refine hK.out _ _ (Bel.trans hHeld b9) (fun hHeld => ?_)
  clear hK K
  try simp only [Act.put, List.setIfInBounds_toArray, List.set_cons_zero, List.set_cons_succ]
  refine r_take (i := 13) (v := ?_) rfl (by kernel_rfl) (by kernel_rfl) (by kernel_rfl) (fun _ _ _ h => h) (by kernel_rfl) hHeld ?_ ?_
  rotate_left
  · (intro w hSw; go_simp; try (with_reducible rfl))
  try simp only [Act.put, List.setIfInBounds_toArray, List.set_cons_zero, List.set_cons_succ]
  refine r_take (i := 14) (v := ?_) rfl (by kernel_rfl) (by kernel_rfl) (by kernel_rfl) (fun _ _ _ h => h) (by kernel_rfl) hHeld ?_ ?_
  rotate_left
  · (intro w hSw; go_simp; try (with_reducible rfl))
  try simp only [Act.put, List.setIfInBounds_toArray, List.set_cons_zero, List.set_cons_succ]
  refine wpAnyH_done (by kernel_rfl) ?_ _
  all_goals
    have HE := Ho.mk (g0.trans (((((((((((((Bel.refl _).trans b1).trans b2).trans b3).trans b4).alloc (.cells #[.bool (dneg u1), .slice A4 (digs (dm u1)).length c4, .int .i64 (de u1)] 24)).trans b5).trans b6).trans b7).alloc (.cells #[.bool (dneg u2), .slice A7 (digs (dm u2)).length c7, .int .i64 (de u2)] 24)).drew).trans b8).trans b9))
    go_wp2
    go_ret
    exact ⟨rfl, HE.out⟩
set_option maxRecDepth 100000 in
set_option maxHeartbeats 8000000 in
theorem scale_yes_fxtt {A0 : Option Addr} {c0 : Nat} {v0 : Int} (a1 : Int) (w : World) (T : Tab w) (p0 : Dv w A0 c0 v0 3000 3480) (hg : H1.goodB (dneg v0) (digs (dm v0)) (de v0) = true) (hk0 : -300 ≤ a1) (hk1 : a1 ≤ 300) (na : Nat) (hna : nw v0 = na) (hna2 : na < 2 * sgnW) (q0 : (FloatKind.f64.format.order na 1905022642377719808 == some .gt) = false) (q2 : (FloatKind.f64.format.order na 11128394679232495616 == some .lt) = true) (q3 : (FloatKind.f64.format.order na 16532714232077090816 == some .gt) = true) (h1 : frung na < infR) (h2 : frung (nw (shiftD v0 a1)) < infR) (h3 : fv (nw (shiftD v0 a1)) = shiftD (fv na) a1) :
    Calls Tryd.prog 14 #[.agg #[.bool (dneg v0), .slice A0 (digs (dm v0)).length c0, .int .i64 (de v0)], .int .i64 a1] w (Tells w (.bool true)) := by
  have TT := Ho.mk T
  have HG := Ho.mk (fun (W : World) (gw : Bel w W) => goodT (dneg v0) A0 c0 (digs (dm v0)) (de v0) W (p0.rd.bel gw) hg)
  have d0 : decide (a1 < -300) = false := decide_eq_false (by omega)
  have d1 : decide (300 < a1) = false := decide_eq_false (by omega)
  have HNA := Ho.mk hna
  have HO1 := Ho.mk (fun (W : World) (gw : Bel w W) => ofD (b := na) hna2 W (T.bel gw) (v := fv na) (ok := true) (fin_of h1) (decide_eq_true h1).symm)
  have HO2 := Ho.mk (fun (W : World) (gw : Bel w W) => ofD (b := nw (shiftD v0 a1)) (nw_facts _).1 W (T.bel gw) (v := fv (nw (shiftD v0 a1))) (ok := true) (fin_of h2) (decide_eq_true h2).symm)
  have HEQ := Ho.mk h3
  clear h3
  obtain ⟨u2, hu2⟩ : ∃ u : Int, fv (nw (shiftD v0 a1)) = u := ⟨_, rfl⟩
  rw [hu2] at HO2 HEQ
  clear hu2
  obtain ⟨u1, hu1⟩ : ∃ u : Int, fv na = u := ⟨_, rfl⟩
  rw [hu1] at HO1 HEQ
  clear hu1
  obtain ⟨nb, hnb⟩ : ∃ n, nw (shiftD v0 a1) = n := ⟨_, rfl⟩
  rw [hnb] at HO2
  have HNB := Ho.mk hnb
  clear hnb h1 h2
  clear hna hna2
  clear T hg
  go_enter Tryd.func14, Tryd.ntmps14
  go_wp2_with fail
  have KB0 := Ho.mk (Blk.new w [.bool (dneg v0), .slice A0 (digs (dm v0)).length c0, .int .i64 (de v0)] 24)
  have g0 := (Bel.refl w).alloc (.cells #[.bool (dneg v0), .slice A0 (digs (dm v0)).length c0, .int .i64 (de v0)] 24)
  have hZ : (w.alloc (.cells #[.bool (dneg v0), .slice A0 (digs (dm v0)).length c0, .int .i64 (de v0)] 24)) = (w.alloc (.cells #[.bool (dneg v0), .slice A0 (digs (dm v0)).length c0, .int .i64 (de v0)] 24)) := rfl
  generalize (w.alloc (.cells #[.bool (dneg v0), .slice A0 (digs (dm v0)).length c0, .int .i64 (de v0)] 24)) = w0 at *
  clear hZ
  (with_reducible refine (headT _ (TT.out.bel (g0.trans (Bel.refl _)))).mono ?_); rintro e w1 ⟨rfl, b1⟩
  have KB2_1 := Ho.mk ((KB0.out.bel ((Bel.refl _).trans b1)))
  have yB2_1_0 := KB2_1.out.cell (i := 0) rfl
  have yB2_1_1 := KB2_1.out.cell (i := 1) rfl
  have yB2_1_2 := KB2_1.out.cell (i := 2) rfl
  go_wp2_with fail
  (with_reducible refine ((HG.out _ (g0.trans ((Bel.refl _).trans b1)))).mono ?_); rintro e w2 ⟨rfl, b2⟩
  clear yB2_1_0 yB2_1_1 yB2_1_2
  have KB2_2 := Ho.mk ((KB2_1.out.bel ((Bel.refl _).trans b2)))
  have yB2_2_0 := KB2_2.out.cell (i := 0) rfl
  have yB2_2_1 := KB2_2.out.cell (i := 1) rfl
  have yB2_2_2 := KB2_2.out.cell (i := 2) rfl
  go_wp2_with fail
  (with_reducible refine (nearD ((p0.bel g0).bel (((Bel.refl _).trans b1).trans b2)) (by omega) (by omega) (r := na) HNA.out).mono ?_); rintro e w3 ⟨rfl, b3⟩
  clear yB2_2_0 yB2_2_1 yB2_2_2
  go_wp2_with fail
  (with_reducible refine (HO1.out _ (g0.trans ((((Bel.refl _).trans b1).trans b2).trans b3))).mono ?_); rintro e w4 ⟨A4, c4, rfl, n4, b4⟩
  have KB7 := Ho.mk (Blk.new w4 [.bool (dneg u1), .slice A4 (digs (dm u1)).length c4, .int .i64 (de u1)] 24)
  have KB2_4x := Ho.mk ((KB2_2.out.bel ((((Bel.refl _).trans b3).trans b4).alloc (.cells #[.bool (dneg u1), .slice A4 (digs (dm u1)).length c4, .int .i64 (de u1)] 24))))
  have yB2_4x_0 := KB2_4x.out.cell (i := 0) rfl
  have yB2_4x_1 := KB2_4x.out.cell (i := 1) rfl
  have yB2_4x_2 := KB2_4x.out.cell (i := 2) rfl
  go_wp2_with fail
  (with_reducible refine (F1.rShift ((p0.bel g0).bel ((((((Bel.refl _).trans b1).trans b2).trans b3).trans b4).alloc (.cells #[.bool (dneg u1), .slice A4 (digs (dm u1)).length c4, .int .i64 (de u1)] 24))) a1 300 (by omega) (by omega) (by omega) (by omega)).mono ?_); rintro e w5 ⟨A5, c5, rfl, n5, b5⟩
  clear yB2_4x_0 yB2_4x_1 yB2_4x_2
  go_wp2_with fail
  (with_reducible refine (nearD n5 (by omega) (by omega) (r := nb) HNB.out).mono ?_); rintro e w6 ⟨rfl, b6⟩
  go_wp2_with fail
  (with_reducible refine (HO2.out _ (g0.trans ((((((((Bel.refl _).trans b1).trans b2).trans b3).trans b4).alloc (.cells #[.bool (dneg u1), .slice A4 (digs (dm u1)).length c4, .int .i64 (de u1)] 24)).trans b5).trans b6))).mono ?_); rintro e w7 ⟨A7, c7, rfl, n7, b7⟩
  have KB10 := Ho.mk (Blk.new w7 [.bool (dneg u2), .slice A7 (digs (dm u2)).length c7, .int .i64 (de u2)] 24)
  go_wp2_with fail
  have KB10_r10 := Ho.mk (KB10.out)
  have yB10_r10_0 := KB10_r10.out.cell (i := 0) rfl
  have yB10_r10_1 := KB10_r10.out.cell (i := 1) rfl
  have yB10_r10_2 := KB10_r10.out.cell (i := 2) rfl
  have KB7_r10 := Ho.mk ((KB7.out.bel (((((Bel.refl _).trans b5).trans b6).trans b7).alloc (.cells #[.bool (dneg u2), .slice A7 (digs (dm u2)).length c7, .int .i64 (de u2)] 24))))
  have yB7_r10_0 := KB7_r10.out.cell (i := 0) rfl
  have yB7_r10_1 := KB7_r10.out.cell (i := 1) rfl
  have yB7_r10_2 := KB7_r10.out.cell (i := 2) rfl
  refine wp_region_held_drew (S := fun w' => Bel (w7.alloc (.cells #[.bool (dneg u2), .slice A7 (digs (dm u2)).length c7, .int .i64 (de u2)] 24)) w') (by kernel_rfl) (Bel.refl _).drew (fun hHeld => ?_)
  (try dsimp only at hHeld)
  refine r_take (i := 0) (v := ?_) rfl (by kernel_rfl) (by kernel_rfl) (by kernel_rfl) (fun _ _ _ h => h) (by kernel_rfl) hHeld ?_ ?_
  rotate_left
  · (intro w hSw; go_simp; try (with_reducible rfl))
  try simp only [Act.put, List.setIfInBounds_toArray, List.set_cons_zero, List.set_cons_succ]
  refine r_take (i := 1) (v := ?_) rfl (by kernel_rfl) (by kernel_rfl) (by kernel_rfl) (fun _ _ _ h => h) (by kernel_rfl) hHeld ?_ ?_
  rotate_left
  · (intro w hSw; go_simp; try (with_reducible rfl))
  try simp only [Act.put, List.setIfInBounds_toArray, List.set_cons_zero, List.set_cons_succ]
  refine r_take (i := 2) (v := ?_) rfl (by kernel_rfl) (by kernel_rfl) (by kernel_rfl) (fun _ _ _ h => h) (by kernel_rfl) hHeld ?_ ?_
  rotate_left
  · (intro w hSw; go_simp; try (with_reducible rfl))
  try simp only [Act.put, List.setIfInBounds_toArray, List.set_cons_zero, List.set_cons_succ]
  refine r_take (i := 3) (v := ?_) rfl (by kernel_rfl) (by kernel_rfl) (by kernel_rfl) (fun _ _ _ h => h) (by kernel_rfl) hHeld ?_ ?_
  rotate_left
  · (intro w hSw; go_simp; try (with_reducible rfl))
  try simp only [Act.put, List.setIfInBounds_toArray, List.set_cons_zero, List.set_cons_succ]
  refine r_take (i := 4) (v := ?_) rfl (by kernel_rfl) (by kernel_rfl) (by kernel_rfl) (fun _ _ _ h => h) (by kernel_rfl) hHeld ?_ ?_
  rotate_left
  · (intro w hSw; go_simp; try (with_reducible rfl))
  try simp only [Act.put, List.setIfInBounds_toArray, List.set_cons_zero, List.set_cons_succ]
  refine r_take (i := 5) (v := ?_) rfl (by kernel_rfl) (by kernel_rfl) (by kernel_rfl) (fun _ _ _ h => h) (by kernel_rfl) hHeld ?_ ?_
  rotate_left
  · (intro w hSw; go_simp; try (with_reducible rfl))
  try simp only [Act.put, List.setIfInBounds_toArray, List.set_cons_zero, List.set_cons_succ]
  refine r_take (i := 6) (v := ?_) rfl (by kernel_rfl) (by kernel_rfl) (by kernel_rfl) (fun _ _ _ h => h) (by kernel_rfl) hHeld ?_ ?_
  rotate_left
  · (intro w hSw; go_simp; try (with_reducible rfl))
  try simp only [Act.put, List.setIfInBounds_toArray, List.set_cons_zero, List.set_cons_succ]
  refine r_take (i := 7) (v := ?_) rfl (by kernel_rfl) (by kernel_rfl) (by kernel_rfl) (fun _ _ _ h => h) (by kernel_rfl) hHeld ?_ ?_
  rotate_left
  · (intro w hSw; go_simp; try (with_reducible rfl))
  try simp only [Act.put, List.setIfInBounds_toArray, List.set_cons_zero, List.set_cons_succ]
  refine r_take (i := 8) (v := ?_) rfl (by kernel_rfl) (by kernel_rfl) (by kernel_rfl) (fun _ _ _ h => h) (by kernel_rfl) hHeld ?_ ?_
  rotate_left
  · (intro w hSw; have z0 := Bel.cell hSw yB10_r10_0; have z1 := Bel.cell hSw yB10_r10_1; have z2 := Bel.cell hSw yB10_r10_2; go_simp; try (with_reducible rfl))
  try simp only [Act.put, List.setIfInBounds_toArray, List.set_cons_zero, List.set_cons_succ]
  refine r_take (i := 9) (v := ?_) rfl (by kernel_rfl) (by kernel_rfl) (by kernel_rfl) (fun _ _ _ h => h) (by kernel_rfl) hHeld ?_ ?_
  rotate_left
  · (intro w hSw; have z0 := Bel.cell hSw yB7_r10_0; have z1 := Bel.cell hSw yB7_r10_1; have z2 := Bel.cell hSw yB7_r10_2; go_simp; try (with_reducible rfl))
  try simp only [Act.put, List.setIfInBounds_toArray, List.set_cons_zero, List.set_cons_succ]
  refine r_take (i := 10) (v := ?_) rfl (by kernel_rfl) (by kernel_rfl) (by kernel_rfl) (fun _ _ _ h => h) (by kernel_rfl) hHeld ?_ ?_
  rotate_left
  · (intro w hSw; go_simp; try (with_reducible rfl))
  try simp only [Act.put, List.setIfInBounds_toArray, List.set_cons_zero, List.set_cons_succ]
  refine r_call (i := 11) (by kernel_rfl) rfl (by kernel_rfl) (fun K hK => ?_)
  go_simp
  go_at_call 31
  (with_reducible refine (F1.rShift (n4.bel (((((((Bel.refl _).alloc (.cells #[.bool (dneg u1), .slice A4 (digs (dm u1)).length c4, .int .i64 (de u1)] 24)).trans b5).trans b6).trans b7).alloc (.cells #[.bool (dneg u2), .slice A7 (digs (dm u2)).length c7, .int .i64 (de u2)] 24)).drew)) a1 300 (by omega) (by omega) (by omega) (by omega)).mono ?_); rintro e w8 ⟨A8, c8, rfl, n8, b8⟩
  try go_wp2_with fail
  refine hK.out _ _ (Bel.trans hHeld b8) (fun hHeld => ?_)
  clear hK K
  try simp only [Act.put, List.setIfInBounds_toArray, List.set_cons_zero, List.set_cons_succ]
  refine r_call (i := 12) (by kernel_rfl) rfl (by kernel_rfl) (fun K hK => ?_)
  go_simp
  go_at_call 19
  (with_reducible refine (F1.same (n7.bel ((((Bel.refl _).alloc (.cells #[.bool (dneg u2), .slice A7 (digs (dm u2)).length c7, .int .i64 (de u2)] 24)).drew).trans b8)) n8 HEQ.out).mono ?_); rintro e w9 ⟨rfl, b9⟩
  try go_wp2_with fail
  refine hK.out _ _ (Bel.trans hHeld b9) (fun hHeld => ?_)
  clear hK K
  try simp only [Act.put, List.setIfInBounds_toArray, List.set_cons_zero, List.set_cons_succ]
  refine r_take (i := 13) (v := ?_) rfl (by kernel_rfl) (by kernel_rfl) (by kernel_rfl) (fun _ _ _ h => h) (by kernel_rfl) hHeld ?_ ?_
  rotate_left
  · (intro w hSw; go_simp; try (with_reducible rfl))
  try simp only [Act.put, List.setIfInBounds_toArray, List.set_cons_zero, List.set_cons_succ]
  refine r_take (i := 14) (v := ?_) rfl (by kernel_rfl) (by kernel_rfl) (by kernel_rfl) (fun _ _ _ h => h) (by kernel_rfl) hHeld ?_ ?_
  rotate_left
  · (intro w hSw; go_simp; try (with_reducible rfl))
  try simp only [Act.put, List.setIfInBounds_toArray, List.set_cons_zero, List.set_cons_succ]
  refine wpAnyH_done (by kernel_rfl) ?_ _
  all_goals
    have HE := Ho.mk (g0.trans (((((((((((((Bel.refl _).trans b1).trans b2).trans b3).trans b4).alloc (.cells #[.bool (dneg u1), .slice A4 (digs (dm u1)).length c4, .int .i64 (de u1)] 24)).trans b5).trans b6).trans b7).alloc (.cells #[.bool (dneg u2), .slice A7 (digs (dm u2)).length c7, .int .i64 (de u2)] 24)).drew).trans b8).trans b9))
    go_wp2
    go_ret
    exact ⟨rfl, HE.out⟩
theorem scale_door (n0 : Bool) (A0 : Option Addr) (c0 : Nat) (l0 : List Int) (e0 : Int) (a1 : Int) (w : World) (T : Tab w) (h0 : Rd w A0 l0) (k0 : l0.length ≤ c0) (bd : -9223372036854775808 ≤ a1 ∧ a1 ≤ 9223372036854775807) :
    Calls Tryd.prog 14 #[.agg #[.bool n0, .slice A0 l0.length c0, .int .i64 e0], .int .i64 a1] w (Tells w (.bool true)) := by
  cases hg : H1.goodB n0 l0 e0 with
  | false => exact scale_off n0 A0 c0 l0 e0 a1 w T h0 hg
  | true =>
    obtain ⟨v0, rfl, rfl, rfl, _, wd⟩ := H1.good_num hg
    have p0 : Dv w A0 c0 v0 3000 3480 := ⟨k0, h0, wd⟩
    rcases Int.lt_or_le a1 (-300) with q | hk0
    · exact scale_low a1 w T p0 hg q
    rcases Int.lt_or_le 300 a1 with q | hk1
    · exact scale_high a1 w T p0 hg q
    obtain ⟨f1, f2, f3⟩ := nw_facts v0
    have fn : frung (nw v0) ≤ infR := by rw [f2]; exact nr_le _
    have t1 := cmp_gt (c := 1905022642377719808) f1 (by decide) fn (by decide)
    have t2 := cmp_lt (c := 7309342195222315008) f1 (by decide) fn (by decide)
    have t3 := cmp_lt (c := 11128394679232495616) f1 (by decide) fn (by decide)
    have t4 := cmp_gt (c := 16532714232077090816) f1 (by decide) fn (by decide)
    by_cases x1 : V 1905022642377719808 < V (nw v0)
    · rw [decide_eq_true x1] at t1
      by_cases x2 : V (nw v0) < V 7309342195222315008
      · rw [decide_eq_true x2] at t2
        obtain ⟨r0, r1⟩ := within (.inl ⟨x1, x2⟩)
        obtain ⟨s1, s2, s3⟩ := scale_fv p0.wd (by decide) hk0 hk1 r0 r1
        exact scale_yes_ttxx a1 w T p0 hg hk0 hk1 _ rfl f1 t1 t2 s1 s2 s3
      · rw [decide_eq_false x2] at t2
        have x3 : ¬ V (nw v0) < V 11128394679232495616 := by
          have y1 : 0 < V 1905022642377719808 := by
            rw [V_of c_rungs.1 c_rungs.2.2.2.2.1]; unfold sv
            have := mag_mono (show 0 < 423 * bn by decide); rw [mag_zero] at this
            rw [if_neg (by decide)]; omega
          have y3 : V 11128394679232495616 < 0 := by
            rw [V_of c_rungs.2.2.1 c_rungs.2.2.2.2.2.2.1]; unfold sv
            have := mag_mono (show 0 < 423 * bn by decide); rw [mag_zero] at this
            rw [if_pos rfl]; omega
          omega
        rw [decide_eq_false x3] at t3
        exact scale_no_tffx a1 w T p0 hg hk0 hk1 _ rfl f1 t1 t2 t3
    · rw [decide_eq_false x1] at t1
      by_cases x3 : V (nw v0) < V 11128394679232495616
      · rw [decide_eq_true x3] at t3
        by_cases x4 : V 16532714232077090816 < V (nw v0)
        · rw [decide_eq_true x4] at t4
          obtain ⟨r0, r1⟩ := within (.inr ⟨x3, x4⟩)
          obtain ⟨s1, s2, s3⟩ := scale_fv p0.wd (by decide) hk0 hk1 r0 r1
          exact scale_yes_fxtt a1 w T p0 hg hk0 hk1 _ rfl f1 t1 t3 t4 s1 s2 s3
        · rw [decide_eq_false x4] at t4
          exact scale_no_fxtf a1 w T p0 hg hk0 hk1 _ rfl f1 t1 t3 t4
      · rw [decide_eq_false x3] at t3
        exact scale_no_fxfx a1 w T p0 hg hk0 hk1 _ rfl f1 t1 t3
end Go.Proofs.YtnmjnjhijcnbcaaDoor.H7
