/-
  The walk of FloNear (its steps are printed by gen2.py).
-/
import Derived.Test.YtnmjnjhijcnbcaaDoorH4
import Derived.Deep.RegionHeld3
import Derived.Deep.DrawnRows
import Derived.Deep.DeepCutAuto
set_option linter.unusedVariables false
set_option linter.unusedSimpArgs false
namespace Go.Proofs.YtnmjnjhijcnbcaaDoor.H5
open Ieee Go Go.RowKit Go.Proofs.YtnmjnjhijcnbcaaDoor Go.Proofs.YtnmjnjhijcnbcaaDoor.Ow Go.Proofs.YtnmjnjhijcnbcaaDoor.Pl Go.Proofs.YtnmjnjhijcnbcaaDoor.Dp Go.Proofs.YtnmjnjhijcnbcaaDoor.Dt Go.Proofs.YtnmjnjhijcnbcaaDoor.Gp Go.Proofs.YtnmjnjhijcnbcaaDoor.Gq Go.Proofs.YtnmjnjhijcnbcaaDoor.Gr Go.Proofs.YtnmjnjhijcnbcaaDoor.G1 Go.Proofs.YtnmjnjhijcnbcaaDoor.G3 Go.Proofs.YtnmjnjhijcnbcaaDoor.G5 Go.Proofs.YtnmjnjhijcnbcaaDoor.G7 Go.Proofs.YtnmjnjhijcnbcaaDoor.E7 Go.Proofs.YtnmjnjhijcnbcaaDoor.F1 Go.Proofs.YtnmjnjhijcnbcaaDoor.H0 Go.Proofs.YtnmjnjhijcnbcaaDoor.H4

attribute [local go_sem ↓] Go.wp_at_zero Go.wp_at_succ
set_option maxRecDepth 100000 in
set_option maxHeartbeats 8000000 in
theorem near_no1 {A0 : Option Addr} {c0 : Nat} {v0 : Int} {f : Nat} (w : World) (T : Tab w) (p0 : Dv w A0 c0 v0 3000 3480) (hg : H1.goodB (dneg v0) (digs (dm v0)) (de v0) = true) (hf : f < 2 * sgnW) (h1 : ¬ frung (nw v0) < infR) (h2 : frung f < infR) :
    Calls Tryd.prog 11 #[.agg #[.bool (dneg v0), .slice A0 (digs (dm v0)).length c0, .int .i64 (de v0)], .float .f64 f] w (Tells w (.bool true)) := by
  have TT := Ho.mk T
  have hn := (nw_facts v0).1
  have HG := Ho.mk (fun (W : World) (g : Bel w W) => goodT (dneg v0) A0 c0 (digs (dm v0)) (de v0) W (p0.rd.bel g) hg)
  have HO1 := Ho.mk (fun (W : World) (gw : Bel w W) => ofD (b := nw v0) hn W (T.bel gw) (v := 0) (ok := false) (by first | exact fin_of h1 | exact inf_of h1) (by first | exact (decide_eq_true h1).symm | exact (decide_eq_false h1).symm))
  have HO2 := Ho.mk (fun (W : World) (gw : Bel w W) => ofD (b := f) hf W (T.bel gw) (v := fv f) (ok := true) (by first | exact fin_of h2 | exact inf_of h2) (by first | exact (decide_eq_true h2).symm | exact (decide_eq_false h2).symm))
  obtain ⟨u1, hu1⟩ : ∃ u : Int, 0 = u := ⟨_, rfl⟩
  rw [hu1] at HO1
  clear hu1
  obtain ⟨u2, hu2⟩ : ∃ u, fv f = u := ⟨_, rfl⟩
  rw [hu2] at HO2
  clear hu2
  obtain ⟨na, hna⟩ : ∃ n, nw v0 = n := ⟨_, rfl⟩
  rw [hna] at HO1
  have HNA := Ho.mk hna
  clear hna hn hg h1 h2 hf T
  go_enter Tryd.func11, Tryd.ntmps11
  go_wp2_with fail
  have KB0 := Ho.mk (Blk.new w [.bool (dneg v0), .slice A0 (digs (dm v0)).length c0, .int .i64 (de v0)] 24)
  have g0 := (Bel.refl w).alloc (.cells #[.bool (dneg v0), .slice A0 (digs (dm v0)).length c0, .int .i64 (de v0)] 24)
  have hZ : (w.alloc (.cells #[.bool (dneg v0), .slice A0 (digs (dm v0)).length c0, .int .i64 (de v0)] 24)) = (w.alloc (.cells #[.bool (dneg v0), .slice A0 (digs (dm v0)).length c0, .int .i64 (de v0)] 24)) := rfl
  generalize (w.alloc (.cells #[.bool (dneg v0), .slice A0 (digs (dm v0)).length c0, .int .i64 (de v0)] 24)) = w0 at *
  clear hZ
  (with_reducible refine (headT _ (TT.out.bel (g0.trans (Bel.refl _)))).mono ?_); rintro e w1 ⟨rfl, b1⟩
  have KB2_1 := Ho.mk ((KB0.out.bel ((Bel.refl _).trans b1)))
  have yB2_1_0 := KB2_1.out.cell (i := 0) rfl
  have yB2_1_1 := KB2_1.out.cell (i := 1) rfl
  have yB2_1_2 := KB2_1.out.cell (i := 2) rfl
  go_wp2_with fail
  (with_reducible refine ((HG.out _ (g0.trans ((Bel.refl _).trans b1)))).mono ?_); rintro e w2 ⟨rfl, b2⟩
  clear yB2_1_0 yB2_1_1 yB2_1_2
  have KB2_2 := Ho.mk ((KB2_1.out.bel ((Bel.refl _).trans b2)))
  have yB2_2_0 := KB2_2.out.cell (i := 0) rfl
  have yB2_2_1 := KB2_2.out.cell (i := 1) rfl
  have yB2_2_2 := KB2_2.out.cell (i := 2) rfl
  go_wp2_with fail
  (with_reducible refine (nearD ((p0.bel g0).bel (((Bel.refl _).trans b1).trans b2)) (by omega) (by omega) (r := na) HNA.out).mono ?_); rintro e w3 ⟨rfl, b3⟩
  clear yB2_2_0 yB2_2_1 yB2_2_2
  go_wp2_with fail
  (with_reducible refine (HO1.out _ (g0.trans ((((Bel.refl _).trans b1).trans b2).trans b3))).mono ?_); rintro e w4 ⟨A4, c4, rfl, n4, b4⟩
  have KB6 := Ho.mk (Blk.new w4 [.bool (dneg u1), .slice A4 (digs (dm u1)).length c4, .int .i64 (de u1)] 24)
  go_wp2_with fail
  (with_reducible refine (HO2.out _ (g0.trans ((((((Bel.refl _).trans b1).trans b2).trans b3).trans b4).alloc (.cells #[.bool (dneg u1), .slice A4 (digs (dm u1)).length c4, .int .i64 (de u1)] 24)))).mono ?_); rintro e w5 ⟨A5, c5, rfl, n5, b5⟩
  have KB8 := Ho.mk (Blk.new w5 [.bool (dneg u2), .slice A5 (digs (dm u2)).length c5, .int .i64 (de u2)] 24)
  all_goals
    have HE := Ho.mk (g0.trans ((((((((Bel.refl _).trans b1).trans b2).trans b3).trans b4).alloc (.cells #[.bool (dneg u1), .slice A4 (digs (dm u1)).length c4, .int .i64 (de u1)] 24)).trans b5).alloc (.cells #[.bool (dneg u2), .slice A5 (digs (dm u2)).length c5, .int .i64 (de u2)] 24)))
    go_wp2
    go_ret
    exact ⟨rfl, HE.out⟩
set_option maxRecDepth 100000 in
set_option maxHeartbeats 8000000 in
theorem near_no2 {A0 : Option Addr} {c0 : Nat} {v0 : Int} {f : Nat} (w : World) (T : Tab w) (p0 : Dv w A0 c0 v0 3000 3480) (hg : H1.goodB (dneg v0) (digs (dm v0)) (de v0) = true) (hf : f < 2 * sgnW) (h1 : ¬ frung (nw v0) < infR) (h2 : ¬ frung f < infR) :
    Calls Tryd.prog 11 #[.agg #[.bool (dneg v0), .slice A0 (digs (dm v0)).length c0, .int .i64 (de v0)], .float .f64 f] w (Tells w (.bool true)) := by
  have TT := Ho.mk T
  have hn := (nw_facts v0).1
  have HG := Ho.mk (fun (W : World) (g : Bel w W) => goodT (dneg v0) A0 c0 (digs (dm v0)) (de v0) W (p0.rd.bel g) hg)
  have HO1 := Ho.mk (fun (W : World) (gw : Bel w W) => ofD (b := nw v0) hn W (T.bel gw) (v := 0) (ok := false) (by first | exact fin_of h1 | exact inf_of h1) (by first | exact (decide_eq_true h1).symm | exact (decide_eq_false h1).symm))
  have HO2 := Ho.mk (fun (W : World) (gw : Bel w W) => ofD (b := f) hf W (T.bel gw) (v := 0) (ok := false) (by first | exact fin_of h2 | exact inf_of h2) (by first | exact (decide_eq_true h2).symm | exact (decide_eq_false h2).symm))
  obtain ⟨u1, hu1⟩ : ∃ u : Int, 0 = u := ⟨_, rfl⟩
  rw [hu1] at HO1
  clear hu1
  obtain ⟨u2, hu2⟩ : ∃ u : Int, 0 = u := ⟨_, rfl⟩
  rw [hu2] at HO2
  clear hu2
  obtain ⟨na, hna⟩ : ∃ n, nw v0 = n := ⟨_, rfl⟩
  rw [hna] at HO1
  have HNA := Ho.mk hna
  clear hna hn hg h1 h2 hf T
  go_enter Tryd.func11, Tryd.ntmps11
  go_wp2_with fail
  have KB0 := Ho.mk (Blk.new w [.bool (dneg v0), .slice A0 (digs (dm v0)).length c0, .int .i64 (de v0)] 24)
  have g0 := (Bel.refl w).alloc (.cells #[.bool (dneg v0), .slice A0 (digs (dm v0)).length c0, .int .i64 (de v0)] 24)
  have hZ : (w.alloc (.cells #[.bool (dneg v0), .slice A0 (digs (dm v0)).length c0, .int .i64 (de v0)] 24)) = (w.alloc (.cells #[.bool (dneg v0), .slice A0 (digs (dm v0)).length c0, .int .i64 (de v0)] 24)) := rfl
  generalize (w.alloc (.cells #[.bool (dneg v0), .slice A0 (digs (dm v0)).length c0, .int .i64 (de v0)] 24)) = w0 at *
  clear hZ
  (with_reducible refine (headT _ (TT.out.bel (g0.trans (Bel.refl _)))).mono ?_); rintro e w1 ⟨rfl, b1⟩
  have KB2_1 := Ho.mk ((KB0.out.bel ((Bel.refl _).trans b1)))
  have yB2_1_0 := KB2_1.out.cell (i := 0) rfl
  have yB2_1_1 := KB2_1.out.cell (i := 1) rfl
  have yB2_1_2 := KB2_1.out.cell (i := 2) rfl
  go_wp2_with fail
  (with_reducible refine ((HG.out _ (g0.trans ((Bel.refl _).trans b1)))).mono ?_); rintro e w2 ⟨rfl, b2⟩
  clear yB2_1_0 yB2_1_1 yB2_1_2
  have KB2_2 := Ho.mk ((KB2_1.out.bel ((Bel.refl _).trans b2)))
  have yB2_2_0 := KB2_2.out.cell (i := 0) rfl
  have yB2_2_1 := KB2_2.out.cell (i := 1) rfl
  have yB2_2_2 := KB2_2.out.cell (i := 2) rfl
  go_wp2_with fail
  (with_reducible refine (nearD ((p0.bel g0).bel (((Bel.refl _).trans b1).trans b2)) (by omega) (by omega) (r := na) HNA.out).mono ?_); rintro e w3 ⟨rfl, b3⟩
  clear yB2_2_0 yB2_2_1 yB2_2_2
  go_wp2_with fail
  (with_reducible refine (HO1.out _ (g0.trans ((((Bel.refl _).trans b1).trans b2).trans b3))).mono ?_); rintro e w4 ⟨A4, c4, rfl, n4, b4⟩
  have KB6 := Ho.mk (Blk.new w4 [.bool (dneg u1), .slice A4 (digs (dm u1)).length c4, .int .i64 (de u1)] 24)
  go_wp2_with fail
  (with_reducible refine (HO2.out _ (g0.trans ((((((Bel.refl _).trans b1).trans b2).trans b3).trans b4).alloc (.cells #[.bool (dneg u1), .slice A4 (digs (dm u1)).length c4, .int .i64 (de u1)] 24)))).mono ?_); rintro e w5 ⟨A5, c5, rfl, n5, b5⟩
  have KB8 := Ho.mk (Blk.new w5 [.bool (dneg u2), .slice A5 (digs (dm u2)).length c5, .int .i64 (de u2)] 24)
  all_goals
    have HE := Ho.mk (g0.trans ((((((((Bel.refl _).trans b1).trans b2).trans b3).trans b4).alloc (.cells #[.bool (dneg u1), .slice A4 (digs (dm u1)).length c4, .int .i64 (de u1)] 24)).trans b5).alloc (.cells #[.bool (dneg u2), .slice A5 (digs (dm u2)).length c5, .int .i64 (de u2)] 24)))
    go_wp2
    go_ret
    exact ⟨rfl, HE.out⟩
set_option maxRecDepth 100000 in
set_option maxHeartbeats 8000000 in
theorem near_no3 {A0 : Option Addr} {c0 : Nat} {v0 : Int} {f : Nat} (w : World) (T : Tab w) (p0 : Dv w A0 c0 v0 3000 3480) (hg : H1.goodB (dneg v0) (digs (dm v0)) (de v0) = true) (hf : f < 2 * sgnW) (h1 : frung (nw v0) < infR) (h2 : ¬ frung f < infR) :
    Calls Tryd.prog 11 #[.agg #[.bool (dneg v0), .slice A0 (digs (dm v0)).length c0, .int .i64 (de v0)], .float .f64 f] w (Tells w (.bool true)) := by
  have TT := Ho.mk T
  have hn := (nw_facts v0).1
  have HG := Ho.mk (fun (W : World) (g : Bel w W) => goodT (dneg v0) A0 c0 (digs (dm v0)) (de v0) W (p0.rd.bel g) hg)
  have HO1 := Ho.mk (fun (W : World) (gw : Bel w W) => ofD (b := nw v0) hn W (T.bel gw) (v := fv (nw v0)) (ok := true) (by first | exact fin_of h1 | exact inf_of h1) (by first | exact (decide_eq_true h1).symm | exact (decide_eq_false h1).symm))
  have HO2 := Ho.mk (fun (W : World) (gw : Bel w W) => ofD (b := f) hf W (T.bel gw) (v := 0) (ok := false) (by first | exact fin_of h2 | exact inf_of h2) (by first | exact (decide_eq_true h2).symm | exact (decide_eq_false h2).symm))
  obtain ⟨u1, hu1⟩ : ∃ u, fv (nw v0) = u := ⟨_, rfl⟩
  rw [hu1] at HO1
  clear hu1
  obtain ⟨u2, hu2⟩ : ∃ u : Int, 0 = u := ⟨_, rfl⟩
  rw [hu2] at HO2
  clear hu2
  obtain ⟨na, hna⟩ : ∃ n, nw v0 = n := ⟨_, rfl⟩
  rw [hna] at HO1
  have HNA := Ho.mk hna
  clear hna hn hg h1 h2 hf T
  go_enter Tryd.func11, Tryd.ntmps11
  go_wp2_with fail
  have KB0 := Ho.mk (Blk.new w [.bool (dneg v0), .slice A0 (digs (dm v0)).length c0, .int .i64 (de v0)] 24)
  have g0 := (Bel.refl w).alloc (.cells #[.bool (dneg v0), .slice A0 (digs (dm v0)).length c0, .int .i64 (de v0)] 24)
  have hZ : (w.alloc (.cells #[.bool (dneg v0), .slice A0 (digs (dm v0)).length c0, .int .i64 (de v0)] 24)) = (w.alloc (.cells #[.bool (dneg v0), .slice A0 (digs (dm v0)).length c0, .int .i64 (de v0)] 24)) := rfl
  generalize (w.alloc (.cells #[.bool (dneg v0), .slice A0 (digs (dm v0)).length c0, .int .i64 (de v0)] 24)) = w0 at *
  clear hZ
  (with_reducible refine (headT _ (TT.out.bel (g0.trans (Bel.refl _)))).mono ?_); rintro e w1 ⟨rfl, b1⟩
  have KB2_1 := Ho.mk ((KB0.out.bel ((Bel.refl _).trans b1)))
  have yB2_1_0 := KB2_1.out.cell (i := 0) rfl
  have yB2_1_1 := KB2_1.out.cell (i := 1) rfl
  have yB2_1_2 := KB2_1.out.cell (i := 2) rfl
  go_wp2_with fail
  (with_reducible refine ((HG.out _ (g0.trans ((Bel.refl _).trans b1)))).mono ?_); rintro e w2 ⟨rfl, b2⟩
  clear yB2_1_0 yB2_1_1 yB2_1_2
  have KB2_2 := Ho.mk ((KB2_1.out.bel ((Bel.refl _).trans b2)))
  have yB2_2_0 := KB2_2.out.cell (i := 0) rfl
  have yB2_2_1 := KB2_2.out.cell (i := 1) rfl
  have yB2_2_2 := KB2_2.out.cell (i := 2) rfl
  go_wp2_with fail
  (with_reducible refine (nearD ((p0.bel g0).bel (((Bel.refl _).trans b1).trans b2)) (by omega) (by omega) (r := na) HNA.out).mono ?_); rintro e w3 ⟨rfl, b3⟩
  clear yB2_2_0 yB2_2_1 yB2_2_2
  go_wp2_with fail
  (with_reducible refine (HO1.out _ (g0.trans ((((Bel.refl _).trans b1).trans b2).trans b3))).mono ?_); rintro e w4 ⟨A4, c4, rfl, n4, b4⟩
  have KB6 := Ho.mk (Blk.new w4 [.bool (dneg u1), .slice A4 (digs (dm u1)).length c4, .int .i64 (de u1)] 24)
  go_wp2_with fail
  (with_reducible refine (HO2.out _ (g0.trans ((((((Bel.refl _).trans b1).trans b2).trans b3).trans b4).alloc (.cells #[.bool (dneg u1), .slice A4 (digs (dm u1)).length c4, .int .i64 (de u1)] 24)))).mono ?_); rintro e w5 ⟨A5, c5, rfl, n5, b5⟩
  have KB8 := Ho.mk (Blk.new w5 [.bool (dneg u2), .slice A5 (digs (dm u2)).length c5, .int .i64 (de u2)] 24)
  all_goals
    have HE := Ho.mk (g0.trans ((((((((Bel.refl _).trans b1).trans b2).trans b3).trans b4).alloc (.cells #[.bool (dneg u1), .slice A4 (digs (dm u1)).length c4, .int .i64 (de u1)] 24)).trans b5).alloc (.cells #[.bool (dneg u2), .slice A5 (digs (dm u2)).length c5, .int .i64 (de u2)] 24)))
    go_wp2
    go_ret
    exact ⟨rfl, HE.out⟩
set_option maxRecDepth 100000 in
set_option maxHeartbeats 8000000 in
theorem near_yes {A0 : Option Addr} {c0 : Nat} {v0 : Int} {f : Nat} (w : World) (T : Tab w) (p0 : Dv w A0 c0 v0 3000 3480) (hg : H1.goodB (dneg v0) (digs (dm v0)) (de v0) = true) (hf : f < 2 * sgnW) (h1 : frung (nw v0) < infR) (h2 : frung f < infR) :
    Calls Tryd.prog 11 #[.agg #[.bool (dneg v0), .slice A0 (digs (dm v0)).length c0, .int .i64 (de v0)], .float .f64 f] w (Tells w (.bool true)) := by
  have TT := Ho.mk T
  have hn := (nw_facts v0).1
  have HG := Ho.mk (fun (W : World) (g : Bel w W) => goodT (dneg v0) A0 c0 (digs (dm v0)) (de v0) W (p0.rd.bel g) hg)
  have HO1 := Ho.mk (fun (W : World) (gw : Bel w W) => ofD (b := nw v0) hn W (T.bel gw) (v := fv (nw v0)) (ok := true) (by first | exact fin_of h1 | exact inf_of h1) (by first | exact (decide_eq_true h1).symm | exact (decide_eq_false h1).symm))
  have HO2 := Ho.mk (fun (W : World) (gw : Bel w W) => ofD (b := f) hf W (T.bel gw) (v := fv f) (ok := true) (by first | exact fin_of h2 | exact inf_of h2) (by first | exact (decide_eq_true h2).symm | exact (decide_eq_false h2).symm))
  have hbst := best (v := v0) (b := f) (by rw [← (nw_facts v0).2.1]; exact h1)
  obtain ⟨r, hr⟩ : ∃ r, cmpI (((fv (nw v0) + -v0).natAbs : Nat) : Int) (((fv f + -v0).natAbs : Nat) : Int) = r := ⟨_, rfl⟩
  have hr0 : r ≤ 0 := by rw [← hr]; unfold cmpI; split <;> (try split) <;> omega
  have HR := Ho.mk hr
  clear hr hbst
  obtain ⟨u1, hu1⟩ : ∃ u, fv (nw v0) = u := ⟨_, rfl⟩
  rw [hu1] at HO1 HR
  clear hu1
  obtain ⟨u2, hu2⟩ : ∃ u, fv f = u := ⟨_, rfl⟩
  rw [hu2] at HO2 HR
  clear hu2
  obtain ⟨na, hna⟩ : ∃ n, nw v0 = n := ⟨_, rfl⟩
  rw [hna] at HO1
  have HNA := Ho.mk hna
  clear hna hn hg h1 h2 hf T
  go_enter Tryd.func11, Tryd.ntmps11
  go_wp2_with fail
  have KB0 := Ho.mk (Blk.new w [.bool (dneg v0), .slice A0 (digs (dm v0)).length c0, .int .i64 (de v0)] 24)
  have g0 := (Bel.refl w).alloc (.cells #[.bool (dneg v0), .slice A0 (digs (dm v0)).length c0, .int .i64 (de v0)] 24)
  have hZ : (w.alloc (.cells #[.bool (dneg v0), .slice A0 (digs (dm v0)).length c0, .int .i64 (de v0)] 24)) = (w.alloc (.cells #[.bool (dneg v0), .slice A0 (digs (dm v0)).length c0, .int .i64 (de v0)] 24)) := rfl
  generalize (w.alloc (.cells #[.bool (dneg v0), .slice A0 (digs (dm v0)).length c0, .int .i64 (de v0)] 24)) = w0 at *
  clear hZ
  (with_reducible refine (headT _ (TT.out.bel (g0.trans (Bel.refl _)))).mono ?_); rintro e w1 ⟨rfl, b1⟩
  have KB2_1 := Ho.mk ((KB0.out.bel ((Bel.refl _).trans b1)))
  have yB2_1_0 := KB2_1.out.cell (i := 0) rfl
  have yB2_1_1 := KB2_1.out.cell (i := 1) rfl
  have yB2_1_2 := KB2_1.out.cell (i := 2) rfl
  go_wp2_with fail
  (with_reducible refine ((HG.out _ (g0.trans ((Bel.refl _).trans b1)))).mono ?_); rintro e w2 ⟨rfl, b2⟩
  clear yB2_1_0 yB2_1_1 yB2_1_2
  have KB2_2 := Ho.mk ((KB2_1.out.bel ((Bel.refl _).trans b2)))
  have yB2_2_0 := KB2_2.out.cell (i := 0) rfl
  have yB2_2_1 := KB2_2.out.cell (i := 1) rfl
  have yB2_2_2 := KB2_2.out.cell (i := 2) rfl
  go_wp2_with fail
  (with_reducible refine (nearD ((p0.bel g0).bel (((Bel.refl _).trans b1).trans b2)) (by omega) (by omega) (r := na) HNA.out).mono ?_); rintro e w3 ⟨rfl, b3⟩
  clear yB2_2_0 yB2_2_1 yB2_2_2
  go_wp2_with fail
  (with_reducible refine (HO1.out _ (g0.trans ((((Bel.refl _).trans b1).trans b2).trans b3))).mono ?_); rintro e w4 ⟨A4, c4, rfl, n4, b4⟩
  have KB6 := Ho.mk (Blk.new w4 [.bool (dneg u1), .slice A4 (digs (dm u1)).length c4, .int .i64 (de u1)] 24)
  go_wp2_with fail
  (with_reducible refine (HO2.out _ (g0.trans ((((((Bel.refl _).trans b1).trans b2).trans b3).trans b4).alloc (.cells #[.bool (dneg u1), .slice A4 (digs (dm u1)).length c4, .int .i64 (de u1)] 24)))).mono ?_); rintro e w5 ⟨A5, c5, rfl, n5, b5⟩
  have KB8 := Ho.mk (Blk.new w5 [.bool (dneg u2), .slice A5 (digs (dm u2)).length c5, .int .i64 (de u2)] 24)
  have KA := Ho.mk (KB6.out.bel (((Bel.refl _).trans b5).alloc (.cells #[.bool (dneg u2), .slice A5 (digs (dm u2)).length c5, .int .i64 (de u2)] 24)))
  have KC := Ho.mk KB8.out
  have KD := Ho.mk (KB2_2.out.bel ((((((Bel.refl _).trans b3).trans b4).alloc (.cells #[.bool (dneg u1), .slice A4 (digs (dm u1)).length c4, .int .i64 (de u1)] 24)).trans b5).alloc (.cells #[.bool (dneg u2), .slice A5 (digs (dm u2)).length c5, .int .i64 (de u2)] 24)))
  have NA := Ho.mk (n4.bel ((((Bel.refl _).alloc (.cells #[.bool (dneg u1), .slice A4 (digs (dm u1)).length c4, .int .i64 (de u1)] 24)).trans b5).alloc (.cells #[.bool (dneg u2), .slice A5 (digs (dm u2)).length c5, .int .i64 (de u2)] 24)))
  have NC := Ho.mk (n5.bel ((Bel.refl _).alloc (.cells #[.bool (dneg u2), .slice A5 (digs (dm u2)).length c5, .int .i64 (de u2)] 24)))
  have ND := Ho.mk ((p0.bel g0).bel ((((((((Bel.refl _).trans b1).trans b2).trans b3).trans b4).alloc (.cells #[.bool (dneg u1), .slice A4 (digs (dm u1)).length c4, .int .i64 (de u1)] 24)).trans b5).alloc (.cells #[.bool (dneg u2), .slice A5 (digs (dm u2)).length c5, .int .i64 (de u2)] 24)))
  have GW := Ho.mk (g0.trans ((((((((Bel.refl _).trans b1).trans b2).trans b3).trans b4).alloc (.cells #[.bool (dneg u1), .slice A4 (digs (dm u1)).length c4, .int .i64 (de u1)] 24)).trans b5).alloc (.cells #[.bool (dneg u2), .slice A5 (digs (dm u2)).length c5, .int .i64 (de u2)] 24)))
  go_upto_region 8 with fail
  generalize w4.heap.size = pa at *
  generalize w5.heap.size = pc at *
  generalize w.heap.size = pd at *
  generalize hwx : (w5.alloc (.cells #[.bool (dneg u2), .slice A5 (digs (dm u2)).length c5, .int .i64 (de u2)] 24)) = wx at *
  clear hwx KB0 KB6 KB8 b1 b2 b3 b4 b5 n4 n5 g0 p0 KB2_2 HG HO1 HO2 HNA
  go_cut [10] (fun s9 wy => ∃ (p : Nat) (A : Option Addr) (c : Nat), s9 = .pointer (some ⟨p, 0, none⟩) ∧ Ho (Blk wy p 24 [.bool (dneg (u1 + -v0)), .slice A (digs (dm (u1 + -v0))).length c, .int .i64 (de (u1 + -v0))]) ∧ Ho (Dv wy A c (u1 + -v0) 4074 4505) ∧ Ho (Bel wx wy) ∧ Ho (wx.heap.size ≤ p))
  case first =>
    have y00 := KA.out.cell (i := 0) rfl
    have y01 := KA.out.cell (i := 1) rfl
    have y02 := KA.out.cell (i := 2) rfl
    have e00 := World.new_ne wx _ y00
    have e01 := World.new_ne wx _ y01
    have e02 := World.new_ne wx _ y02
    have q01 : pa ≠ wx.heap.size := by have := KA.out.lt; omega
    have q02 : ¬ (wx.heap.size = pa) := fun q => q01 q.symm
    have y10 := KD.out.cell (i := 0) rfl
    have y11 := KD.out.cell (i := 1) rfl
    have y12 := KD.out.cell (i := 2) rfl
    have e10 := World.new_ne wx _ y10
    have e11 := World.new_ne wx _ y11
    have e12 := World.new_ne wx _ y12
    have q11 : pd ≠ wx.heap.size := by have := KD.out.lt; omega
    have q12 : ¬ (wx.heap.size = pd) := fun q => q11 q.symm
    have FL := Ho.mk (fun (W : World) (g : Bel wx W) => F1.rFlip (ND.out.bel g))
    have AD := Ho.mk (fun (A : Option Addr) (c : Nat) (W : World) (g : Bel wx W) (q : Dv W A c (-v0) 3000 3480) => F1.rAdd (NA.out.bel g) q (by omega) (by omega))
    go_region_held3 (fun w' => w'.cell? ⟨pa, 0, none⟩ = some (.bool (dneg u1)) ∧ w'.cell? ⟨pa, 1, none⟩ = some (.slice A4 (digs (dm u1)).length c4) ∧ w'.cell? ⟨pa, 2, none⟩ = some (.int .i64 (de u1)) ∧ w'.cell? ⟨pd, 0, none⟩ = some (.bool (dneg v0)) ∧ w'.cell? ⟨pd, 1, none⟩ = some (.slice A0 (digs (dm v0)).length c0) ∧ w'.cell? ⟨pd, 2, none⟩ = some (.int .i64 (de v0)))
      (first
        | go_keep
        | (go_split_ands
           refine ⟨?_, ?_, ?_, ?_, ?_, ?_⟩ <;> (apply Bel.cell (by assumption); assumption))
        | (all_goals (go_split_ands; apply Bel.cell (by assumption); assumption))
        | (go_split_ands
           refine ⟨?_, ?_, ?_, ?_, ?_, ?_⟩ <;> go_keep)
        | (go_split_ands
           refine ⟨?_, ?_, ?_, ?_, ?_, ?_⟩ <;> (refine Bel.cell ((Bel.refl _).alloc _) ?_; assumption))
        | (all_goals (go_split_ands; refine Bel.cell ((Bel.refl _).alloc _) ?_; assumption)))
      (first
        | (go_at_call 29; (with_reducible refine (FL.out _ (by first | exact (Bel.refl _).drew | exact ((Bel.refl _).alloc _).drew | exact ((Bel.refl _).drew).alloc _)).mono ?_); rintro e wa ⟨A8, c8, rfl, n8, b8⟩
           have gba : Bel wx wa := by first | exact (Bel.refl _).drew.trans b8 | exact ((Bel.refl _).alloc _).drew.trans b8 | exact (((Bel.refl _).drew).alloc _).trans b8
           have qa01 : pa ≠ wa.heap.size := by have := KA.out.lt; have := gba.size; omega
           have qa02 : ¬ (wa.heap.size = pa) := fun q => qa01 q.symm
           have qa11 : pd ≠ wa.heap.size := by have := KD.out.lt; have := gba.size; omega
           have qa12 : ¬ (wa.heap.size = pd) := fun q => qa11 q.symm
           try (have KQ : Blk wa wx.heap.size 24 [.bool false, .slice none 0 0, .int .i64 0] := by first | exact (Blk.new wx _ _).bel ((Bel.refl _).drew.trans b8) | exact (Blk.new wx.drew _ _).bel b8))
        | (go_at_call 21; (with_reducible refine (AD.out _ _ _ (by first | exact (Bel.refl _).drew.trans b8 | exact ((Bel.refl _).alloc _).drew.trans b8 | exact (((Bel.refl _).drew).alloc _).trans b8 | exact ((Bel.refl _).drew.trans b8).alloc _) (by first | exact n8 | exact n8.bel ((Bel.refl _).alloc _))).mono ?_); rintro e wb ⟨A9, c9, rfl, n9, b9⟩
           have gb : Bel wx wb := by first | exact (Bel.refl _).drew.trans (b8.trans b9) | exact ((Bel.refl _).alloc _).drew.trans (b8.trans b9) | exact (((Bel.refl _).drew).alloc _).trans (b8.trans b9) | exact ((Bel.refl _).drew.trans b8).alloc _ |>.trans b9
           have z00 := gb.cell y00
           have z01 := gb.cell y01
           have z02 := gb.cell y02
           have z10 := gb.cell y10
           have z11 := gb.cell y11
           have z12 := gb.cell y12
           try (have KQ2 : Blk wb wx.heap.size 24 [.bool false, .slice none 0 0, .int .i64 0] := KQ.bel b9
                have kq0 := KQ2.cell (i := 0) rfl
                have kq1 := KQ2.cell (i := 1) rfl
                have kq2 := KQ2.cell (i := 2) rfl
                have kf0 := KQ2.free 0
                have kf1 := KQ2.free 1
                have kf2 := KQ2.free 2)
           try (have KQ3 : Blk wb wa.heap.size 24 [.bool false, .slice none 0 0, .int .i64 0] := (Blk.new wa _ _).bel b9
                have kq0 := KQ3.cell (i := 0) rfl
                have kq1 := KQ3.cell (i := 1) rfl
                have kq2 := KQ3.cell (i := 2) rfl
                have kf0 := KQ3.free 0
                have kf1 := KQ3.free 1
                have kf2 := KQ3.free 2)))
    all_goals (go_wp2_with fail; go_meet)
    all_goals (first
      | exact ⟨_, A9, c9, rfl, ⟨((KQ2.set 0 _).set 1 _).set 2 _⟩, ⟨H4.dv_set3 (n9.mono (by omega) (by omega)) KQ2 _ _ _⟩, ⟨H4.bel_set3 gb (Nat.le_refl _) _ _ _⟩, ⟨Nat.le_refl _⟩⟩
      | exact ⟨_, A9, c9, rfl, ⟨((KQ3.set 0 _).set 1 _).set 2 _⟩, ⟨H4.dv_set3 (n9.mono (by omega) (by omega)) KQ3 _ _ _⟩, ⟨H4.bel_set3 gb gba.size _ _ _⟩, ⟨gba.size⟩⟩
      | exact ⟨_, A9, c9, rfl, ⟨Blk.new _ _ _⟩, ⟨(n9.mono (by omega) (by omega)).bel ((Bel.refl _).alloc _)⟩, ⟨gb.alloc _⟩, ⟨gb.size⟩⟩)
  obtain ⟨pX, AX, cX, rfl, KX, NX, GX, SX⟩ := hcut
  obtain ⟨wX, rfl⟩ : ∃ z : World, z = wc := ⟨_, rfl⟩
  have KC2 := Ho.mk (KC.out.bel GX.out)
  have KD2 := Ho.mk (KD.out.bel GX.out)
  have NC2 := Ho.mk (NC.out.bel GX.out)
  have ND2 := Ho.mk (ND.out.bel GX.out)
  have GY := Ho.mk (GW.out.trans GX.out)
  have SW := Ho.mk (Nat.le_trans GW.out.size SX.out)
  clear KA KC KD NA NC ND GW GX SX
  go_upto_region 9 with fail
  go_cut [11] (fun s9 wy => ∃ (p : Nat) (A : Option Addr) (c : Nat), s9 = .pointer (some ⟨p, 0, none⟩) ∧ Ho (Blk wy p 24 [.bool (dneg (u2 + -v0)), .slice A (digs (dm (u2 + -v0))).length c, .int .i64 (de (u2 + -v0))]) ∧ Ho (Dv wy A c (u2 + -v0) 4074 4505) ∧ Ho (Bel wX wy) ∧ Ho (wX.heap.size ≤ p))
  case first =>
    have y00 := KC2.out.cell (i := 0) rfl
    have y01 := KC2.out.cell (i := 1) rfl
    have y02 := KC2.out.cell (i := 2) rfl
    have e00 := World.new_ne wX _ y00
    have e01 := World.new_ne wX _ y01
    have e02 := World.new_ne wX _ y02
    have q01 : pc ≠ wX.heap.size := by have := KC2.out.lt; omega
    have q02 : ¬ (wX.heap.size = pc) := fun q => q01 q.symm
    have y10 := KD2.out.cell (i := 0) rfl
    have y11 := KD2.out.cell (i := 1) rfl
    have y12 := KD2.out.cell (i := 2) rfl
    have e10 := World.new_ne wX _ y10
    have e11 := World.new_ne wX _ y11
    have e12 := World.new_ne wX _ y12
    have q11 : pd ≠ wX.heap.size := by have := KD2.out.lt; omega
    have q12 : ¬ (wX.heap.size = pd) := fun q => q11 q.symm
    have FL := Ho.mk (fun (W : World) (g : Bel wX W) => F1.rFlip (ND2.out.bel g))
    have AD := Ho.mk (fun (A : Option Addr) (c : Nat) (W : World) (g : Bel wX W) (q : Dv W A c (-v0) 3000 3480) => F1.rAdd (NC2.out.bel g) q (by omega) (by omega))
    go_region_held3 (fun w' => w'.cell? ⟨pc, 0, none⟩ = some (.bool (dneg u2)) ∧ w'.cell? ⟨pc, 1, none⟩ = some (.slice A5 (digs (dm u2)).length c5) ∧ w'.cell? ⟨pc, 2, none⟩ = some (.int .i64 (de u2)) ∧ w'.cell? ⟨pd, 0, none⟩ = some (.bool (dneg v0)) ∧ w'.cell? ⟨pd, 1, none⟩ = some (.slice A0 (digs (dm v0)).length c0) ∧ w'.cell? ⟨pd, 2, none⟩ = some (.int .i64 (de v0)))
      (first
        | go_keep
        | (go_split_ands
           refine ⟨?_, ?_, ?_, ?_, ?_, ?_⟩ <;> (apply Bel.cell (by assumption); assumption))
        | (all_goals (go_split_ands; apply Bel.cell (by assumption); assumption))
        | (go_split_ands
           refine ⟨?_, ?_, ?_, ?_, ?_, ?_⟩ <;> go_keep)
        | (go_split_ands
           refine ⟨?_, ?_, ?_, ?_, ?_, ?_⟩ <;> (refine Bel.cell ((Bel.refl _).alloc _) ?_; assumption))
        | (all_goals (go_split_ands; refine Bel.cell ((Bel.refl _).alloc _) ?_; assumption)))
      (first
        | (go_at_call 29; (with_reducible refine (FL.out _ (by first | exact (Bel.refl _).drew | exact ((Bel.refl _).alloc _).drew | exact ((Bel.refl _).drew).alloc _)).mono ?_); rintro e wa ⟨A8, c8, rfl, n8, b8⟩
           have gba : Bel wX wa := by first | exact (Bel.refl _).drew.trans b8 | exact ((Bel.refl _).alloc _).drew.trans b8 | exact (((Bel.refl _).drew).alloc _).trans b8
           have qa01 : pc ≠ wa.heap.size := by have := KC2.out.lt; have := gba.size; omega
           have qa02 : ¬ (wa.heap.size = pc) := fun q => qa01 q.symm
           have qa11 : pd ≠ wa.heap.size := by have := KD2.out.lt; have := gba.size; omega
           have qa12 : ¬ (wa.heap.size = pd) := fun q => qa11 q.symm
           try (have KQ : Blk wa wX.heap.size 24 [.bool false, .slice none 0 0, .int .i64 0] := by first | exact (Blk.new wX _ _).bel ((Bel.refl _).drew.trans b8) | exact (Blk.new wX.drew _ _).bel b8))
        | (go_at_call 21; (with_reducible refine (AD.out _ _ _ (by first | exact (Bel.refl _).drew.trans b8 | exact ((Bel.refl _).alloc _).drew.trans b8 | exact (((Bel.refl _).drew).alloc _).trans b8 | exact ((Bel.refl _).drew.trans b8).alloc _) (by first | exact n8 | exact n8.bel ((Bel.refl _).alloc _))).mono ?_); rintro e wb ⟨A9, c9, rfl, n9, b9⟩
           have gb : Bel wX wb := by first | exact (Bel.refl _).drew.trans (b8.trans b9) | exact ((Bel.refl _).alloc _).drew.trans (b8.trans b9) | exact (((Bel.refl _).drew).alloc _).trans (b8.trans b9) | exact ((Bel.refl _).drew.trans b8).alloc _ |>.trans b9
           have z00 := gb.cell y00
           have z01 := gb.cell y01
           have z02 := gb.cell y02
           have z10 := gb.cell y10
           have z11 := gb.cell y11
           have z12 := gb.cell y12
           try (have KQ2 : Blk wb wX.heap.size 24 [.bool false, .slice none 0 0, .int .i64 0] := KQ.bel b9
                have kq0 := KQ2.cell (i := 0) rfl
                have kq1 := KQ2.cell (i := 1) rfl
                have kq2 := KQ2.cell (i := 2) rfl
                have kf0 := KQ2.free 0
                have kf1 := KQ2.free 1
                have kf2 := KQ2.free 2)
           try (have KQ3 : Blk wb wa.heap.size 24 [.bool false, .slice none 0 0, .int .i64 0] := (Blk.new wa _ _).bel b9
                have kq0 := KQ3.cell (i := 0) rfl
                have kq1 := KQ3.cell (i := 1) rfl
                have kq2 := KQ3.cell (i := 2) rfl
                have kf0 := KQ3.free 0
                have kf1 := KQ3.free 1
                have kf2 := KQ3.free 2)))
    all_goals (go_wp2_with fail; go_meet)
    all_goals (first
      | exact ⟨_, A9, c9, rfl, ⟨((KQ2.set 0 _).set 1 _).set 2 _⟩, ⟨H4.dv_set3 (n9.mono (by omega) (by omega)) KQ2 _ _ _⟩, ⟨H4.bel_set3 gb (Nat.le_refl _) _ _ _⟩, ⟨Nat.le_refl _⟩⟩
      | exact ⟨_, A9, c9, rfl, ⟨((KQ3.set 0 _).set 1 _).set 2 _⟩, ⟨H4.dv_set3 (n9.mono (by omega) (by omega)) KQ3 _ _ _⟩, ⟨H4.bel_set3 gb gba.size _ _ _⟩, ⟨gba.size⟩⟩
      | exact ⟨_, A9, c9, rfl, ⟨Blk.new _ _ _⟩, ⟨(n9.mono (by omega) (by omega)).bel ((Bel.refl _).alloc _)⟩, ⟨gb.alloc _⟩, ⟨gb.size⟩⟩)
  obtain ⟨pZ, AZ, cZ, rfl, KZ, NZ, GZ, SZ⟩ := hcut
  obtain ⟨wZ, rfl⟩ : ∃ z : World, z = wc := ⟨_, rfl⟩
  have KX2 := Ho.mk (KX.out.bel GZ.out)
  have NX2 := Ho.mk (NX.out.bel GZ.out)
  have GV := Ho.mk (GY.out.trans GZ.out)
  have ne1 : pX ≠ pZ := by have := KX.out.lt; have := SZ.out; omega
  have ne2 : ¬ (pZ = pX) := fun q => ne1 q.symm
  have SV := Ho.mk (Nat.le_trans GY.out.size SZ.out)
  obtain ⟨x1, x2, x3⟩ := abs_parts (u1 + -v0)
  obtain ⟨z1, z2, z3⟩ := abs_parts (u2 + -v0)
  have KXa := Ho.mk ((KX2.out.set 0 (.bool false)).far (p := ⟨pZ, 0, none⟩) ne1 (.bool false))
  have KZ1 := KZ.out.far (p := ⟨pX, 0, none⟩) ne2 (.bool false)
  have KZa := Ho.mk (KZ1.set 0 (.bool false))
  have NXa := rd_bool KZ1 (rd_bool KX2.out NX2.out.rd (.bool false)) (.bool false)
  have NZa := rd_bool KZ1 (rd_bool KX2.out NZ.out.rd (.bool false)) (.bool false)
  have GU := Ho.mk (Bel.mk ((GV.out.out.setCell (p := ⟨pX, 0, none⟩) SW.out (.bool false)).setCell (p := ⟨pZ, 0, none⟩) SV.out (.bool false)))
  rw [← x2] at NXa
  rw [← z2] at NZa
  have wd1 := NX2.out.wd
  have wd2 := NZ.out.wd
  have cap1 := NX2.out.cap
  have cap2 := NZ.out.cap
  rw [← x2] at cap1
  rw [← z2] at cap2
  have DX : Ho (Dv _ AX cX (((u1 + -v0).natAbs : Nat) : Int) 4074 4505) := ⟨⟨cap1, NXa, wd_abs wd1⟩⟩
  have DZ : Ho (Dv _ AZ cZ (((u2 + -v0).natAbs : Nat) : Int) 4074 4505) := ⟨⟨cap2, NZa, wd_abs wd2⟩⟩
  clear wd1 wd2 cap1 cap2 NXa NZa
  simp only [List.set_cons_zero] at KXa KZa
  rw [← x2, ← x3] at KXa
  rw [← z2, ← z3] at KZa
  have y0 := KX2.out.cell (i := 0) rfl
  have f0 := KX2.out.free 0
  have y1 := KZ1.cell (i := 0) rfl
  have f1 := KZ1.free 0
  clear KX2 NX2 GV SV SW GY KZ NZ GZ SZ KX NX KC2 KD2 NC2 ND2 KZ1
  go_upto_region 12 with fail
  clear y0 y1 f0 f1
  generalize hws : (wZ.setCell ⟨pX, 0, none⟩ (.bool false)).setCell ⟨pZ, 0, none⟩ (.bool false) = ws at *
  rw [← x1] at KXa
  rw [← z1] at KZa
  clear hws x1 x2 x3 z1 z2 z3
  generalize (((u1 + -v0).natAbs : Nat) : Int) = s1 at *
  generalize (((u2 + -v0).natAbs : Nat) : Int) = s2 at *
  have y00 := KXa.out.cell (i := 0) rfl
  have y01 := KXa.out.cell (i := 1) rfl
  have y02 := KXa.out.cell (i := 2) rfl
  have y10 := KZa.out.cell (i := 0) rfl
  have y11 := KZa.out.cell (i := 1) rfl
  have y12 := KZa.out.cell (i := 2) rfl
  have d0 : decide (r ≤ 0) = true := decide_eq_true hr0
  go_wp2_with fail
  (with_reducible refine (F1.rCmp DX.out DZ.out (by omega) (by omega) (r := r) HR.out).mono ?_); rintro e wq ⟨rfl, bq⟩
  have HE := Ho.mk (GU.out.trans bq)
  clear bq
  go_wp2
  go_ret
  exact ⟨rfl, HE.out⟩
theorem near_off (n0 : Bool) (A0 : Option Addr) (c0 : Nat) (l0 : List Int) (e0 : Int) {f : Nat} (w : World) (T : Tab w) (h0 : Rd w A0 l0) (hg : H1.goodB n0 l0 e0 = false) :
    Calls Tryd.prog 11 #[.agg #[.bool n0, .slice A0 l0.length c0, .int .i64 e0], .float .f64 f] w (Tells w (.bool true)) := by
  have TT := Ho.mk T
  have HG := Ho.mk (fun (W : World) (g : Bel w W) => goodT n0 A0 c0 l0 e0 W (h0.bel g) hg)
  clear T hg
  go_enter Tryd.func11, Tryd.ntmps11
  go_wp2_with fail
  have KB0 := Ho.mk (Blk.new w [.bool n0, .slice A0 l0.length c0, .int .i64 e0] 24)
  have g0 := (Bel.refl w).alloc (.cells #[.bool n0, .slice A0 l0.length c0, .int .i64 e0] 24)
  have hZ : (w.alloc (.cells #[.bool n0, .slice A0 l0.length c0, .int .i64 e0] 24)) = (w.alloc (.cells #[.bool n0, .slice A0 l0.length c0, .int .i64 e0] 24)) := rfl
  generalize (w.alloc (.cells #[.bool n0, .slice A0 l0.length c0, .int .i64 e0] 24)) = w0 at *
  clear hZ
  (with_reducible refine (headT _ (TT.out.bel g0)).mono ?_); rintro e w1 ⟨rfl, b1⟩
  have K1 := Ho.mk (KB0.out.bel b1)
  have y0 := K1.out.cell (i := 0) rfl
  have y1 := K1.out.cell (i := 1) rfl
  have y2 := K1.out.cell (i := 2) rfl
  go_wp2_with fail
  (with_reducible refine (HG.out _ (g0.trans b1)).mono ?_); rintro e w2 ⟨rfl, b2⟩
  have HE := Ho.mk (g0.trans (b1.trans b2))
  go_wp2
  go_ret
  exact ⟨rfl, HE.out⟩
theorem near_door (n0 : Bool) (A0 : Option Addr) (c0 : Nat) (l0 : List Int) (e0 : Int) (f : Nat) (w : World) (T : Tab w) (h0 : Rd w A0 l0) (k0 : l0.length ≤ c0) (hf : (Lit.float .f64 f).wf = true) :
    Calls Tryd.prog 11 #[.agg #[.bool n0, .slice A0 l0.length c0, .int .i64 e0], .float .f64 f] w (Tells w (.bool true)) := by
  cases hg : H1.goodB n0 l0 e0 with
  | false => exact near_off n0 A0 c0 l0 e0 w T h0 hg
  | true =>
    obtain ⟨v0, rfl, rfl, rfl, _, wd⟩ := H1.good_num hg
    have p0 : Dv w A0 c0 v0 3000 3480 := ⟨k0, h0, wd⟩
    by_cases h1 : frung (nw v0) < infR <;> by_cases h2 : frung f < infR
    · exact near_yes w T p0 hg (wf_lt hf) h1 h2
    · exact near_no3 w T p0 hg (wf_lt hf) h1 h2
    · exact near_no1 w T p0 hg (wf_lt hf) h1 h2
    · exact near_no2 w T p0 hg (wf_lt hf) h1 h2
end Go.Proofs.YtnmjnjhijcnbcaaDoor.H5
