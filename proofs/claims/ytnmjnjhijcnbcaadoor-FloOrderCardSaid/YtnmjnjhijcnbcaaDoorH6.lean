/-
  The walk of FloOrder (its steps are printed by gen2.py).
-/
import Derived.Test.YtnmjnjhijcnbcaaDoorH4
import Derived.Deep.RegionHeld3
import Derived.Deep.DrawnRows
import Derived.Deep.DeepCutAuto
set_option linter.unusedVariables false
set_option linter.unusedSimpArgs false
namespace Go.Proofs.YtnmjnjhijcnbcaaDoor.H6
open Ieee Go Go.RowKit Go.Proofs.YtnmjnjhijcnbcaaDoor Go.Proofs.YtnmjnjhijcnbcaaDoor.Ow Go.Proofs.YtnmjnjhijcnbcaaDoor.Pl Go.Proofs.YtnmjnjhijcnbcaaDoor.Dp Go.Proofs.YtnmjnjhijcnbcaaDoor.Dt Go.Proofs.YtnmjnjhijcnbcaaDoor.Gp Go.Proofs.YtnmjnjhijcnbcaaDoor.Gq Go.Proofs.YtnmjnjhijcnbcaaDoor.Gr Go.Proofs.YtnmjnjhijcnbcaaDoor.G1 Go.Proofs.YtnmjnjhijcnbcaaDoor.G3 Go.Proofs.YtnmjnjhijcnbcaaDoor.G5 Go.Proofs.YtnmjnjhijcnbcaaDoor.G7 Go.Proofs.YtnmjnjhijcnbcaaDoor.E7 Go.Proofs.YtnmjnjhijcnbcaaDoor.F1 Go.Proofs.YtnmjnjhijcnbcaaDoor.H0 Go.Proofs.YtnmjnjhijcnbcaaDoor.H4

attribute [local go_sem ↓] Go.wp_at_zero Go.wp_at_succ
theorem ord_lt {f g : Nat} (hf : f < 2 * sgnW) (hg : g < 2 * sgnW) (h1 : frung f < infR) (h2 : frung g < infR) (h : V f < V g) :
    (FloatKind.f64.format.order f g == some .lt) = true ∧ (FloatKind.f64.format.order f g == some .eq) = false ∧ cmpI (fv f) (fv g) = -1 ∧ decide (fv f = fv g) = false := by
  have := fv_lt.1 h
  rw [ord hf hg (Nat.le_of_lt h1) (Nat.le_of_lt h2), c_lt h]
  exact ⟨rfl, rfl, cmpI_lt this, decide_eq_false (by omega)⟩
theorem ord_gt {f g : Nat} (hf : f < 2 * sgnW) (hg : g < 2 * sgnW) (h1 : frung f < infR) (h2 : frung g < infR) (h : V g < V f) :
    (FloatKind.f64.format.order f g == some .lt) = false ∧ (FloatKind.f64.format.order f g == some .eq) = false ∧ cmpI (fv f) (fv g) = 1 ∧ decide (fv f = fv g) = false := by
  have := fv_lt.1 h
  rw [ord hf hg (Nat.le_of_lt h1) (Nat.le_of_lt h2), c_gt h]
  exact ⟨rfl, rfl, cmpI_gt this, decide_eq_false (by omega)⟩
theorem ord_eq {f g : Nat} (hf : f < 2 * sgnW) (hg : g < 2 * sgnW) (h1 : frung f < infR) (h2 : frung g < infR) (h : V f = V g) :
    (FloatKind.f64.format.order f g == some .lt) = false ∧ (FloatKind.f64.format.order f g == some .eq) = true ∧ cmpI (fv f) (fv g) = 0 ∧ decide (fv f = fv g) = true := by
  have : fv f = fv g := by unfold fv; rw [h]
  rw [ord hf hg (Nat.le_of_lt h1) (Nat.le_of_lt h2), c_eq h]
  exact ⟨rfl, rfl, cmpI_eq this, decide_eq_true this⟩
theorem near_le {a b : Int} (h : a ≤ b) : ((FloatKind.f64.format.order (nw a) (nw b)) == some .lt || (FloatKind.f64.format.order (nw a) (nw b)) == some .eq) = true := by
  obtain ⟨a1, a2, _⟩ := nw_facts a
  obtain ⟨b1, b2, _⟩ := nw_facts b
  rw [ord a1 b1 (by rw [a2]; exact nr_le _) (by rw [b2]; exact nr_le _)]
  rcases Int.lt_or_eq_of_le (near_mono h) with q | q
  · rw [c_lt q]; rfl
  · rw [c_eq q]; rfl
theorem neg_facts {b : Nat} (hb : b < 2 * sgnW) : Op.negFloat .f64 b < 2 * sgnW ∧ frung (Op.negFloat .f64 b) = frung b ∧ V (Op.negFloat .f64 b) = -V b := by
  obtain ⟨e, h2⟩ := word_split hb
  have hn : Op.negFloat .f64 b = double.word (!fneg b) (frung b) := by
    conv => lhs; rw [e]
    exact G9.neg_word _ h2
  rw [hn]
  refine ⟨word_lt2 _ h2, (word_neg _ h2).2, ?_⟩
  rw [V_word _ h2]
  unfold V sv
  cases fneg b <;> simp
theorem near_neg (a : Int) : (FloatKind.f64.format.order (nw (-a)) (Op.negFloat .f64 (nw a)) == some .eq) = true := by
  obtain ⟨a1, a2, _⟩ := nw_facts a
  obtain ⟨b1, b2, _⟩ := nw_facts (-a)
  obtain ⟨c1, c2, c3⟩ := neg_facts a1
  rw [ord b1 c1 (by rw [b2]; exact nr_le _) (by rw [c2, a2]; exact nr_le _), c_eq (by rw [c3, V_neg])]; rfl
set_option maxRecDepth 100000 in
set_option maxHeartbeats 8000000 in
theorem order_no1_a0 (n0 : Bool) (A0 : Option Addr) (c0 : Nat) (l0 : List Int) (e0 : Int) (n1 : Bool) (A1 : Option Addr) (c1 : Nat) (l1 : List Int) (e1 : Int) {f g : Nat} (w : World) (T : Tab w) (hr0 : Rd w A0 l0) (hr1 : Rd w A1 l1) (hf : f < 2 * sgnW) (hg : g < 2 * sgnW) (h1 : ¬ frung f < infR) (ga : H1.goodB n0 l0 e0 = false) :
    Calls Tryd.prog 12 #[.agg #[.bool n0, .slice A0 l0.length c0, .int .i64 e0], .agg #[.bool n1, .slice A1 l1.length c1, .int .i64 e1], .float .f64 f, .float .f64 g] w (Tells w (.bool true)) := by
  have TT := Ho.mk T
  have HO1 := Ho.mk (fun (W : World) (gw : Bel w W) => ofD (b := f) hf W (T.bel gw) (v := 0) (ok := false) (by first | exact fin_of h1 | exact inf_of h1) (by first | exact (decide_eq_true h1).symm | exact (decide_eq_false h1).symm))
  obtain ⟨u2, hu2⟩ : ∃ u, (if frung g < infR then fv g else 0) = u := ⟨_, rfl⟩
  obtain ⟨k2, hk2⟩ : ∃ k, decide (frung g < infR) = k := ⟨_, rfl⟩
  have HO2 := Ho.mk (fun (W : World) (gw : Bel w W) => ofD (b := g) hg W (T.bel gw) (v := u2) (ok := k2) hu2.symm hk2.symm)
  clear hu2 hk2
  obtain ⟨u1, hu1⟩ : ∃ u : Int, 0 = u := ⟨_, rfl⟩
  rw [hu1] at HO1
  clear hu1
  have HGA := Ho.mk (fun (W : World) (gw : Bel w W) => goodT n0 A0 c0 l0 e0 W (hr0.bel gw) ga)
  clear T hf hg ga h1
  go_enter Tryd.func12, Tryd.ntmps12
  go_wp2_with fail
  have KB0 := Ho.mk ((Blk.new w [.bool n0, .slice A0 l0.length c0, .int .i64 e0] 24).old (.cells #[.bool n1, .slice A1 l1.length c1, .int .i64 e1] 24))
  have KB1 := Ho.mk (Blk.new (w.alloc (.cells #[.bool n0, .slice A0 l0.length c0, .int .i64 e0] 24)) [.bool n1, .slice A1 l1.length c1, .int .i64 e1] 24)
  have g0 := ((Bel.refl w).alloc (.cells #[.bool n0, .slice A0 l0.length c0, .int .i64 e0] 24)).alloc (.cells #[.bool n1, .slice A1 l1.length c1, .int .i64 e1] 24)
  rw [World.size_alloc] at KB1
  have hZ : ((w.alloc (.cells #[.bool n0, .slice A0 l0.length c0, .int .i64 e0] 24)).alloc (.cells #[.bool n1, .slice A1 l1.length c1, .int .i64 e1] 24)) = ((w.alloc (.cells #[.bool n0, .slice A0 l0.length c0, .int .i64 e0] 24)).alloc (.cells #[.bool n1, .slice A1 l1.length c1, .int .i64 e1] 24)) := rfl
  generalize ((w.alloc (.cells #[.bool n0, .slice A0 l0.length c0, .int .i64 e0] 24)).alloc (.cells #[.bool n1, .slice A1 l1.length c1, .int .i64 e1] 24)) = w0 at *
  clear hZ
  (with_reducible refine (headT _ (TT.out.bel (g0.trans (Bel.refl _)))).mono ?_); rintro e w1 ⟨rfl, b1⟩
  go_wp2_with fail
  (with_reducible refine (HO1.out _ (g0.trans ((Bel.refl _).trans b1))).mono ?_); rintro e w2 ⟨A2, c2, rfl, n2, b2⟩
  have KB10 := Ho.mk (Blk.new w2 [.bool (dneg u1), .slice A2 (digs (dm u1)).length c2, .int .i64 (de u1)] 24)
  go_wp2_with fail
  (with_reducible refine (HO2.out _ (g0.trans ((((Bel.refl _).trans b1).trans b2).alloc (.cells #[.bool (dneg u1), .slice A2 (digs (dm u1)).length c2, .int .i64 (de u1)] 24)))).mono ?_); rintro e w3 ⟨A3, c3, rfl, n3, b3⟩
  have KB12 := Ho.mk (Blk.new w3 [.bool (dneg u2), .slice A3 (digs (dm u2)).length c3, .int .i64 (de u2)] 24)
  have KB4_3x := Ho.mk ((KB0.out.bel ((((((Bel.refl _).trans b1).trans b2).alloc (.cells #[.bool (dneg u1), .slice A2 (digs (dm u1)).length c2, .int .i64 (de u1)] 24)).trans b3).alloc (.cells #[.bool (dneg u2), .slice A3 (digs (dm u2)).length c3, .int .i64 (de u2)] 24))))
  have yB4_3x_0 := KB4_3x.out.cell (i := 0) rfl
  have yB4_3x_1 := KB4_3x.out.cell (i := 1) rfl
  have yB4_3x_2 := KB4_3x.out.cell (i := 2) rfl
  go_wp2_with fail
  (with_reducible refine ((HGA.out _ (g0.trans ((((((Bel.refl _).trans b1).trans b2).alloc (.cells #[.bool (dneg u1), .slice A2 (digs (dm u1)).length c2, .int .i64 (de u1)] 24)).trans b3).alloc (.cells #[.bool (dneg u2), .slice A3 (digs (dm u2)).length c3, .int .i64 (de u2)] 24))))).mono ?_); rintro e w4 ⟨rfl, b4⟩
  clear yB4_3x_0 yB4_3x_1 yB4_3x_2
  all_goals
    have HE := Ho.mk (g0.trans (((((((Bel.refl _).trans b1).trans b2).alloc (.cells #[.bool (dneg u1), .slice A2 (digs (dm u1)).length c2, .int .i64 (de u1)] 24)).trans b3).alloc (.cells #[.bool (dneg u2), .slice A3 (digs (dm u2)).length c3, .int .i64 (de u2)] 24)).trans b4))
    go_wp2
    go_ret
    exact ⟨rfl, HE.out⟩
set_option maxRecDepth 100000 in
set_option maxHeartbeats 8000000 in
theorem order_no1_b0 (n0 : Bool) (A0 : Option Addr) (c0 : Nat) (l0 : List Int) (e0 : Int) (n1 : Bool) (A1 : Option Addr) (c1 : Nat) (l1 : List Int) (e1 : Int) {f g : Nat} (w : World) (T : Tab w) (hr0 : Rd w A0 l0) (hr1 : Rd w A1 l1) (hf : f < 2 * sgnW) (hg : g < 2 * sgnW) (h1 : ¬ frung f < infR) (ga : H1.goodB n0 l0 e0 = true) (gb : H1.goodB n1 l1 e1 = false) :
    Calls Tryd.prog 12 #[.agg #[.bool n0, .slice A0 l0.length c0, .int .i64 e0], .agg #[.bool n1, .slice A1 l1.length c1, .int .i64 e1], .float .f64 f, .float .f64 g] w (Tells w (.bool true)) := by
  have TT := Ho.mk T
  have HO1 := Ho.mk (fun (W : World) (gw : Bel w W) => ofD (b := f) hf W (T.bel gw) (v := 0) (ok := false) (by first | exact fin_of h1 | exact inf_of h1) (by first | exact (decide_eq_true h1).symm | exact (decide_eq_false h1).symm))
  obtain ⟨u2, hu2⟩ : ∃ u, (if frung g < infR then fv g else 0) = u := ⟨_, rfl⟩
  obtain ⟨k2, hk2⟩ : ∃ k, decide (frung g < infR) = k := ⟨_, rfl⟩
  have HO2 := Ho.mk (fun (W : World) (gw : Bel w W) => ofD (b := g) hg W (T.bel gw) (v := u2) (ok := k2) hu2.symm hk2.symm)
  clear hu2 hk2
  obtain ⟨u1, hu1⟩ : ∃ u : Int, 0 = u := ⟨_, rfl⟩
  rw [hu1] at HO1
  clear hu1
  have HGA := Ho.mk (fun (W : World) (gw : Bel w W) => goodT n0 A0 c0 l0 e0 W (hr0.bel gw) ga)
  have HGB := Ho.mk (fun (W : World) (gw : Bel w W) => goodT n1 A1 c1 l1 e1 W (hr1.bel gw) gb)
  clear T hf hg ga gb h1
  go_enter Tryd.func12, Tryd.ntmps12
  go_wp2_with fail
  have KB0 := Ho.mk ((Blk.new w [.bool n0, .slice A0 l0.length c0, .int .i64 e0] 24).old (.cells #[.bool n1, .slice A1 l1.length c1, .int .i64 e1] 24))
  have KB1 := Ho.mk (Blk.new (w.alloc (.cells #[.bool n0, .slice A0 l0.length c0, .int .i64 e0] 24)) [.bool n1, .slice A1 l1.length c1, .int .i64 e1] 24)
  have g0 := ((Bel.refl w).alloc (.cells #[.bool n0, .slice A0 l0.length c0, .int .i64 e0] 24)).alloc (.cells #[.bool n1, .slice A1 l1.length c1, .int .i64 e1] 24)
  rw [World.size_alloc] at KB1
  have hZ : ((w.alloc (.cells #[.bool n0, .slice A0 l0.length c0, .int .i64 e0] 24)).alloc (.cells #[.bool n1, .slice A1 l1.length c1, .int .i64 e1] 24)) = ((w.alloc (.cells #[.bool n0, .slice A0 l0.length c0, .int .i64 e0] 24)).alloc (.cells #[.bool n1, .slice A1 l1.length c1, .int .i64 e1] 24)) := rfl
  generalize ((w.alloc (.cells #[.bool n0, .slice A0 l0.length c0, .int .i64 e0] 24)).alloc (.cells #[.bool n1, .slice A1 l1.length c1, .int .i64 e1] 24)) = w0 at *
  clear hZ
  (with_reducible refine (headT _ (TT.out.bel (g0.trans (Bel.refl _)))).mono ?_); rintro e w1 ⟨rfl, b1⟩
  go_wp2_with fail
  (with_reducible refine (HO1.out _ (g0.trans ((Bel.refl _).trans b1))).mono ?_); rintro e w2 ⟨A2, c2, rfl, n2, b2⟩
  have KB10 := Ho.mk (Blk.new w2 [.bool (dneg u1), .slice A2 (digs (dm u1)).length c2, .int .i64 (de u1)] 24)
  go_wp2_with fail
  (with_reducible refine (HO2.out _ (g0.trans ((((Bel.refl _).trans b1).trans b2).alloc (.cells #[.bool (dneg u1), .slice A2 (digs (dm u1)).length c2, .int .i64 (de u1)] 24)))).mono ?_); rintro e w3 ⟨A3, c3, rfl, n3, b3⟩
  have KB12 := Ho.mk (Blk.new w3 [.bool (dneg u2), .slice A3 (digs (dm u2)).length c3, .int .i64 (de u2)] 24)
  have KB4_3x := Ho.mk ((KB0.out.bel ((((((Bel.refl _).trans b1).trans b2).alloc (.cells #[.bool (dneg u1), .slice A2 (digs (dm u1)).length c2, .int .i64 (de u1)] 24)).trans b3).alloc (.cells #[.bool (dneg u2), .slice A3 (digs (dm u2)).length c3, .int .i64 (de u2)] 24))))
  have yB4_3x_0 := KB4_3x.out.cell (i := 0) rfl
  have yB4_3x_1 := KB4_3x.out.cell (i := 1) rfl
  have yB4_3x_2 := KB4_3x.out.cell (i := 2) rfl
  go_wp2_with fail
  (with_reducible refine ((HGA.out _ (g0.trans ((((((Bel.refl _).trans b1).trans b2).alloc (.cells #[.bool (dneg u1), .slice A2 (digs (dm u1)).length c2, .int .i64 (de u1)] 24)).trans b3).alloc (.cells #[.bool (dneg u2), .slice A3 (digs (dm u2)).length c3, .int .i64 (de u2)] 24))))).mono ?_); rintro e w4 ⟨rfl, b4⟩
  clear yB4_3x_0 yB4_3x_1 yB4_3x_2
  have KB5_4 := Ho.mk ((KB1.out.bel (((((((Bel.refl _).trans b1).trans b2).alloc (.cells #[.bool (dneg u1), .slice A2 (digs (dm u1)).length c2, .int .i64 (de u1)] 24)).trans b3).alloc (.cells #[.bool (dneg u2), .slice A3 (digs (dm u2)).length c3, .int .i64 (de u2)] 24)).trans b4)))
  have yB5_4_0 := KB5_4.out.cell (i := 0) rfl
  have yB5_4_1 := KB5_4.out.cell (i := 1) rfl
  have yB5_4_2 := KB5_4.out.cell (i := 2) rfl
  go_wp2_with fail
  (with_reducible refine ((HGB.out _ (g0.trans (((((((Bel.refl _).trans b1).trans b2).alloc (.cells #[.bool (dneg u1), .slice A2 (digs (dm u1)).length c2, .int .i64 (de u1)] 24)).trans b3).alloc (.cells #[.bool (dneg u2), .slice A3 (digs (dm u2)).length c3, .int .i64 (de u2)] 24)).trans b4)))).mono ?_); rintro e w5 ⟨rfl, b5⟩
  clear yB5_4_0 yB5_4_1 yB5_4_2
  all_goals
    have HE := Ho.mk (g0.trans ((((((((Bel.refl _).trans b1).trans b2).alloc (.cells #[.bool (dneg u1), .slice A2 (digs (dm u1)).length c2, .int .i64 (de u1)] 24)).trans b3).alloc (.cells #[.bool (dneg u2), .slice A3 (digs (dm u2)).length c3, .int .i64 (de u2)] 24)).trans b4).trans b5))
    go_wp2
    go_ret
    exact ⟨rfl, HE.out⟩
set_option maxRecDepth 100000 in
set_option maxHeartbeats 8000000 in
theorem order_no1_gr {A0 : Option Addr} {c0 : Nat} {v0 : Int} {A1 : Option Addr} {c1 : Nat} {v1 : Int} {f g : Nat} (w : World) (T : Tab w) (p0 : Dv w A0 c0 v0 3000 3480) (p1 : Dv w A1 c1 v1 3000 3480) (hf : f < 2 * sgnW) (hg : g < 2 * sgnW) (h1 : ¬ frung f < infR) (ga : H1.goodB (dneg v0) (digs (dm v0)) (de v0) = true) (gb : H1.goodB (dneg v1) (digs (dm v1)) (de v1) = true) (h4 : v1 < v0) :
    Calls Tryd.prog 12 #[.agg #[.bool (dneg v0), .slice A0 (digs (dm v0)).length c0, .int .i64 (de v0)], .agg #[.bool (dneg v1), .slice A1 (digs (dm v1)).length c1, .int .i64 (de v1)], .float .f64 f, .float .f64 g] w (Tells w (.bool true)) := by
  have TT := Ho.mk T
  have HO1 := Ho.mk (fun (W : World) (gw : Bel w W) => ofD (b := f) hf W (T.bel gw) (v := 0) (ok := false) (by first | exact fin_of h1 | exact inf_of h1) (by first | exact (decide_eq_true h1).symm | exact (decide_eq_false h1).symm))
  obtain ⟨u2, hu2⟩ : ∃ u, (if frung g < infR then fv g else 0) = u := ⟨_, rfl⟩
  obtain ⟨k2, hk2⟩ : ∃ k, decide (frung g < infR) = k := ⟨_, rfl⟩
  have HO2 := Ho.mk (fun (W : World) (gw : Bel w W) => ofD (b := g) hg W (T.bel gw) (v := u2) (ok := k2) hu2.symm hk2.symm)
  clear hu2 hk2
  obtain ⟨u1, hu1⟩ : ∃ u : Int, 0 = u := ⟨_, rfl⟩
  rw [hu1] at HO1
  clear hu1
  have HGA := Ho.mk (fun (W : World) (gw : Bel w W) => goodT (dneg v0) A0 c0 (digs (dm v0)) (de v0) W (p0.rd.bel gw) ga)
  have HGB := Ho.mk (fun (W : World) (gw : Bel w W) => goodT (dneg v1) A1 c1 (digs (dm v1)) (de v1) W (p1.rd.bel gw) gb)
  obtain ⟨rd, hrd⟩ : ∃ r, cmpI v0 v1 = r := ⟨_, rfl⟩
  have d1 : decide (0 < rd) = true := decide_eq_true (by rw [← hrd, cmpI_gt h4]; decide)
  have HRD := Ho.mk hrd
  clear hrd
  have cng := near_neg v0
  obtain ⟨na, hna⟩ : ∃ n, nw v0 = n := ⟨_, rfl⟩
  obtain ⟨nb, hnb⟩ : ∃ n, nw v1 = n := ⟨_, rfl⟩
  obtain ⟨nc, hnc⟩ : ∃ n, nw (-v0) = n := ⟨_, rfl⟩
  rw [hna, hnc] at cng
  have hng := fun (W : World) => G9.run_neg na W
  generalize Op.negFloat .f64 na = nd at *
  have HNA := Ho.mk hna
  have HNB := Ho.mk hnb
  have HNC := Ho.mk hnc
  clear hna hnb hnc
  clear T hf hg ga gb h1 h4
  go_enter Tryd.func12, Tryd.ntmps12
  go_wp2_with fail
  have KB0 := Ho.mk ((Blk.new w [.bool (dneg v0), .slice A0 (digs (dm v0)).length c0, .int .i64 (de v0)] 24).old (.cells #[.bool (dneg v1), .slice A1 (digs (dm v1)).length c1, .int .i64 (de v1)] 24))
  have KB1 := Ho.mk (Blk.new (w.alloc (.cells #[.bool (dneg v0), .slice A0 (digs (dm v0)).length c0, .int .i64 (de v0)] 24)) [.bool (dneg v1), .slice A1 (digs (dm v1)).length c1, .int .i64 (de v1)] 24)
  have g0 := ((Bel.refl w).alloc (.cells #[.bool (dneg v0), .slice A0 (digs (dm v0)).length c0, .int .i64 (de v0)] 24)).alloc (.cells #[.bool (dneg v1), .slice A1 (digs (dm v1)).length c1, .int .i64 (de v1)] 24)
  rw [World.size_alloc] at KB1
  have hZ : ((w.alloc (.cells #[.bool (dneg v0), .slice A0 (digs (dm v0)).length c0, .int .i64 (de v0)] 24)).alloc (.cells #[.bool (dneg v1), .slice A1 (digs (dm v1)).length c1, .int .i64 (de v1)] 24)) = ((w.alloc (.cells #[.bool (dneg v0), .slice A0 (digs (dm v0)).length c0, .int .i64 (de v0)] 24)).alloc (.cells #[.bool (dneg v1), .slice A1 (digs (dm v1)).length c1, .int .i64 (de v1)] 24)) := rfl
  generalize ((w.alloc (.cells #[.bool (dneg v0), .slice A0 (digs (dm v0)).length c0, .int .i64 (de v0)] 24)).alloc (.cells #[.bool (dneg v1), .slice A1 (digs (dm v1)).length c1, .int .i64 (de v1)] 24)) = w0 at *
  clear hZ
  (with_reducible refine (headT _ (TT.out.bel (g0.trans (Bel.refl _)))).mono ?_); rintro e w1 ⟨rfl, b1⟩
  go_wp2_with fail
  (with_reducible refine (HO1.out _ (g0.trans ((Bel.refl _).trans b1))).mono ?_); rintro e w2 ⟨A2, c2, rfl, n2, b2⟩
  have KB10 := Ho.mk (Blk.new w2 [.bool (dneg u1), .slice A2 (digs (dm u1)).length c2, .int .i64 (de u1)] 24)
  go_wp2_with fail
  (with_reducible refine (HO2.out _ (g0.trans ((((Bel.refl _).trans b1).trans b2).alloc (.cells #[.bool (dneg u1), .slice A2 (digs (dm u1)).length c2, .int .i64 (de u1)] 24)))).mono ?_); rintro e w3 ⟨A3, c3, rfl, n3, b3⟩
  have KB12 := Ho.mk (Blk.new w3 [.bool (dneg u2), .slice A3 (digs (dm u2)).length c3, .int .i64 (de u2)] 24)
  have KB4_3x := Ho.mk ((KB0.out.bel ((((((Bel.refl _).trans b1).trans b2).alloc (.cells #[.bool (dneg u1), .slice A2 (digs (dm u1)).length c2, .int .i64 (de u1)] 24)).trans b3).alloc (.cells #[.bool (dneg u2), .slice A3 (digs (dm u2)).length c3, .int .i64 (de u2)] 24))))
  have yB4_3x_0 := KB4_3x.out.cell (i := 0) rfl
  have yB4_3x_1 := KB4_3x.out.cell (i := 1) rfl
  have yB4_3x_2 := KB4_3x.out.cell (i := 2) rfl
  go_wp2_with fail
  (with_reducible refine ((HGA.out _ (g0.trans ((((((Bel.refl _).trans b1).trans b2).alloc (.cells #[.bool (dneg u1), .slice A2 (digs (dm u1)).length c2, .int .i64 (de u1)] 24)).trans b3).alloc (.cells #[.bool (dneg u2), .slice A3 (digs (dm u2)).length c3, .int .i64 (de u2)] 24))))).mono ?_); rintro e w4 ⟨rfl, b4⟩
  clear yB4_3x_0 yB4_3x_1 yB4_3x_2
  have KB5_4 := Ho.mk ((KB1.out.bel (((((((Bel.refl _).trans b1).trans b2).alloc (.cells #[.bool (dneg u1), .slice A2 (digs (dm u1)).length c2, .int .i64 (de u1)] 24)).trans b3).alloc (.cells #[.bool (dneg u2), .slice A3 (digs (dm u2)).length c3, .int .i64 (de u2)] 24)).trans b4)))
  have yB5_4_0 := KB5_4.out.cell (i := 0) rfl
  have yB5_4_1 := KB5_4.out.cell (i := 1) rfl
  have yB5_4_2 := KB5_4.out.cell (i := 2) rfl
  go_wp2_with fail
  (with_reducible refine ((HGB.out _ (g0.trans (((((((Bel.refl _).trans b1).trans b2).alloc (.cells #[.bool (dneg u1), .slice A2 (digs (dm u1)).length c2, .int .i64 (de u1)] 24)).trans b3).alloc (.cells #[.bool (dneg u2), .slice A3 (digs (dm u2)).length c3, .int .i64 (de u2)] 24)).trans b4)))).mono ?_); rintro e w5 ⟨rfl, b5⟩
  clear yB5_4_0 yB5_4_1 yB5_4_2
  go_wp2_with fail
  have KB4_r8 := Ho.mk ((KB4_3x.out.bel (((Bel.refl _).trans b4).trans b5)))
  have yB4_r8_0 := KB4_r8.out.cell (i := 0) rfl
  have yB4_r8_1 := KB4_r8.out.cell (i := 1) rfl
  have yB4_r8_2 := KB4_r8.out.cell (i := 2) rfl
  have KB5_r8 := Ho.mk ((KB5_4.out.bel ((Bel.refl _).trans b5)))
  have yB5_r8_0 := KB5_r8.out.cell (i := 0) rfl
  have yB5_r8_1 := KB5_r8.out.cell (i := 1) rfl
  have yB5_r8_2 := KB5_r8.out.cell (i := 2) rfl
  refine wp_region_held_drew (S := fun w' => Bel w5 w') (by kernel_rfl) (Bel.refl _).drew (fun hHeld => ?_)
  (try dsimp only at hHeld)
  refine r_take (i := 0) (v := ?_) rfl (by kernel_rfl) (by kernel_rfl) (by kernel_rfl) (fun _ _ _ h => h) (by kernel_rfl) hHeld ?_ ?_
  rotate_left
  · (intro w hSw; go_simp; try (with_reducible rfl))
  try simp only [Act.put, List.setIfInBounds_toArray, List.set_cons_zero, List.set_cons_succ]
  refine r_take (i := 1) (v := ?_) rfl (by kernel_rfl) (by kernel_rfl) (by kernel_rfl) (fun _ _ _ h => h) (by kernel_rfl) hHeld ?_ ?_
  rotate_left
  · (intro w hSw; go_simp; try (with_reducible rfl))
  try simp only [Act.put, List.setIfInBounds_toArray, List.set_cons_zero, List.set_cons_succ]
  refine r_take (i := 2) (v := ?_) rfl (by kernel_rfl) (by kernel_rfl) (by kernel_rfl) (fun _ _ _ h => h) (by kernel_rfl) hHeld ?_ ?_
  rotate_left
  · (intro w hSw; have z0 := Bel.cell hSw yB4_r8_0; have z1 := Bel.cell hSw yB4_r8_1; have z2 := Bel.cell hSw yB4_r8_2; go_simp; try (with_reducible rfl))
  try simp only [Act.put, List.setIfInBounds_toArray, List.set_cons_zero, List.set_cons_succ]
  refine r_take (i := 3) (v := ?_) rfl (by kernel_rfl) (by kernel_rfl) (by kernel_rfl) (fun _ _ _ h => h) (by kernel_rfl) hHeld ?_ ?_
  rotate_left
  · (intro w hSw; have z0 := Bel.cell hSw yB5_r8_0; have z1 := Bel.cell hSw yB5_r8_1; have z2 := Bel.cell hSw yB5_r8_2; go_simp; try (with_reducible rfl))
  try simp only [Act.put, List.setIfInBounds_toArray, List.set_cons_zero, List.set_cons_succ]
  refine r_call (i := 4) (by kernel_rfl) rfl (by kernel_rfl) (fun K hK => ?_)
  go_simp
  go_at_call 25
  (with_reducible refine (F1.rCmp ((p0.bel g0).bel (((((((((Bel.refl _).trans b1).trans b2).alloc (.cells #[.bool (dneg u1), .slice A2 (digs (dm u1)).length c2, .int .i64 (de u1)] 24)).trans b3).alloc (.cells #[.bool (dneg u2), .slice A3 (digs (dm u2)).length c3, .int .i64 (de u2)] 24)).trans b4).trans b5).drew)) ((p1.bel g0).bel (((((((((Bel.refl _).trans b1).trans b2).alloc (.cells #[.bool (dneg u1), .slice A2 (digs (dm u1)).length c2, .int .i64 (de u1)] 24)).trans b3).alloc (.cells #[.bool (dneg u2), .slice A3 (digs (dm u2)).length c3, .int .i64 (de u2)] 24)).trans b4).trans b5).drew)) (by omega) (by omega) (r := rd) HRD.out).mono ?_); rintro e w6 ⟨rfl, b6⟩
  try go_wp2_with fail
  refine hK.out _ _ (Bel.trans hHeld b6) (fun hHeld => ?_)
  clear hK K
  try simp only [Act.put, List.setIfInBounds_toArray, List.set_cons_zero, List.set_cons_succ]
  refine r_take (i := 5) (v := ?_) rfl (by kernel_rfl) (by kernel_rfl) (by kernel_rfl) (fun _ _ _ h => h) (by kernel_rfl) hHeld ?_ ?_
  rotate_left
  · (intro w hSw; go_simp; try (with_reducible rfl))
  try simp only [Act.put, List.setIfInBounds_toArray, List.set_cons_zero, List.set_cons_succ]
  refine r_take (i := 6) (v := ?_) rfl (by kernel_rfl) (by kernel_rfl) (by kernel_rfl) (fun _ _ _ h => h) (by kernel_rfl) hHeld ?_ ?_
  rotate_left
  · (intro w hSw; go_simp; try (with_reducible rfl))
  try simp only [Act.put, List.setIfInBounds_toArray, List.set_cons_zero, List.set_cons_succ]
  refine r_not (i := 7) rfl (by kernel_rfl) (by kernel_rfl) (by kernel_rfl) (fun _ _ _ h => h) (by kernel_rfl) hHeld ?_
  try simp only [Act.put, List.setIfInBounds_toArray, List.set_cons_zero, List.set_cons_succ]
  refine r_not (i := 8) rfl (by kernel_rfl) (by kernel_rfl) (by kernel_rfl) (fun _ _ _ h => h) (by kernel_rfl) hHeld ?_
  try simp only [Act.put, List.setIfInBounds_toArray, List.set_cons_zero, List.set_cons_succ]
  refine r_not (i := 9) rfl (by kernel_rfl) (by kernel_rfl) (by kernel_rfl) (fun _ _ _ h => h) (by kernel_rfl) hHeld ?_
  try simp only [Act.put, List.setIfInBounds_toArray, List.set_cons_zero, List.set_cons_succ]
  refine r_not (i := 10) rfl (by kernel_rfl) (by kernel_rfl) (by kernel_rfl) (fun _ _ _ h => h) (by kernel_rfl) hHeld ?_
  try simp only [Act.put, List.setIfInBounds_toArray, List.set_cons_zero, List.set_cons_succ]
  refine r_not (i := 11) rfl (by kernel_rfl) (by kernel_rfl) (by kernel_rfl) (fun _ _ _ h => h) (by kernel_rfl) hHeld ?_
  try simp only [Act.put, List.setIfInBounds_toArray, List.set_cons_zero, List.set_cons_succ]
  refine r_take (i := 12) (v := ?_) rfl (by kernel_rfl) (by kernel_rfl) (by kernel_rfl) (fun _ _ _ h => h) (by kernel_rfl) hHeld ?_ ?_
  rotate_left
  · (intro w hSw; go_simp; try (with_reducible rfl))
  try simp only [Act.put, List.setIfInBounds_toArray, List.set_cons_zero, List.set_cons_succ]
  refine r_take (i := 13) (v := ?_) rfl (by kernel_rfl) (by kernel_rfl) (by kernel_rfl) (fun _ _ _ h => h) (by kernel_rfl) hHeld ?_ ?_
  rotate_left
  · (intro w hSw; go_simp; try (with_reducible rfl))
  try simp only [Act.put, List.setIfInBounds_toArray, List.set_cons_zero, List.set_cons_succ]
  refine r_take (i := 14) (v := ?_) rfl (by kernel_rfl) (by kernel_rfl) (by kernel_rfl) (fun _ _ _ h => h) (by kernel_rfl) hHeld ?_ ?_
  rotate_left
  · (intro w hSw; go_simp; try (with_reducible rfl))
  try simp only [Act.put, List.setIfInBounds_toArray, List.set_cons_zero, List.set_cons_succ]
  refine r_take (i := 15) (v := ?_) rfl (by kernel_rfl) (by kernel_rfl) (by kernel_rfl) (fun _ _ _ h => h) (by kernel_rfl) hHeld ?_ ?_
  rotate_left
  · (intro w hSw; have z0 := Bel.cell hSw yB4_r8_0; have z1 := Bel.cell hSw yB4_r8_1; have z2 := Bel.cell hSw yB4_r8_2; go_simp; try (with_reducible rfl))
  try simp only [Act.put, List.setIfInBounds_toArray, List.set_cons_zero, List.set_cons_succ]
  refine r_take (i := 18) (v := ?_) rfl (by kernel_rfl) (by kernel_rfl) (by kernel_rfl) (fun _ _ _ h => h) (by kernel_rfl) hHeld ?_ ?_
  rotate_left
  · (intro w hSw; have z0 := Bel.cell hSw yB4_r8_0; have z1 := Bel.cell hSw yB4_r8_1; have z2 := Bel.cell hSw yB4_r8_2; go_simp; try (with_reducible rfl))
  try simp only [Act.put, List.setIfInBounds_toArray, List.set_cons_zero, List.set_cons_succ]
  refine r_call (i := 16) (by kernel_rfl) rfl (by kernel_rfl) (fun K hK => ?_)
  go_simp
  go_at_call 29
  (with_reducible refine (F1.rFlip ((p0.bel g0).bel ((((((((((Bel.refl _).trans b1).trans b2).alloc (.cells #[.bool (dneg u1), .slice A2 (digs (dm u1)).length c2, .int .i64 (de u1)] 24)).trans b3).alloc (.cells #[.bool (dneg u2), .slice A3 (digs (dm u2)).length c3, .int .i64 (de u2)] 24)).trans b4).trans b5).drew).trans b6))).mono ?_); rintro e w7 ⟨A7, c7, rfl, n7, b7⟩
  try go_wp2_with fail
  refine hK.out _ _ (Bel.trans hHeld b7) (fun hHeld => ?_)
  clear hK K
  try simp only [Act.put, List.setIfInBounds_toArray, List.set_cons_zero, List.set_cons_succ]
  refine r_call (i := 17) (by kernel_rfl) rfl (by kernel_rfl) (fun K hK => ?_)
  go_simp
  go_at_call 47
  (with_reducible refine (nearD n7 (by omega) (by omega) (r := nc) HNC.out).mono ?_); rintro e w8 ⟨rfl, b8⟩
  try go_wp2_with fail
  refine hK.out _ _ (Bel.trans hHeld b8) (fun hHeld => ?_)
  clear hK K
  try simp only [Act.put, List.setIfInBounds_toArray, List.set_cons_zero, List.set_cons_succ]
  refine r_call (i := 19) (by kernel_rfl) rfl (by kernel_rfl) (fun K hK => ?_)
  go_simp
  go_at_call 47
  (with_reducible refine (nearD ((p0.bel g0).bel ((((((((((((Bel.refl _).trans b1).trans b2).alloc (.cells #[.bool (dneg u1), .slice A2 (digs (dm u1)).length c2, .int .i64 (de u1)] 24)).trans b3).alloc (.cells #[.bool (dneg u2), .slice A3 (digs (dm u2)).length c3, .int .i64 (de u2)] 24)).trans b4).trans b5).drew).trans b6).trans b7).trans b8)) (by omega) (by omega) (r := na) HNA.out).mono ?_); rintro e w9 ⟨rfl, b9⟩
  try go_wp2_with fail
  refine hK.out _ _ (Bel.trans hHeld b9) (fun hHeld => ?_)
  clear hK K
  try simp only [Act.put, List.setIfInBounds_toArray, List.set_cons_zero, List.set_cons_succ]
  refine r_take (i := 20) (v := ?_) rfl (by kernel_rfl) (by kernel_rfl) (by kernel_rfl) (fun _ _ _ h => h) (by kernel_rfl) hHeld ?_ ?_
  rotate_left
  · (intro w hSw; go_simp; try (with_reducible rfl))
  try simp only [Act.put, List.setIfInBounds_toArray, List.set_cons_zero, List.set_cons_succ]
  refine r_take (i := 21) (v := ?_) rfl (by kernel_rfl) (by kernel_rfl) (by kernel_rfl) (fun _ _ _ h => h) (by kernel_rfl) hHeld ?_ ?_
  rotate_left
  · (intro w hSw; go_simp; try (with_reducible rfl))
  try simp only [Act.put, List.setIfInBounds_toArray, List.set_cons_zero, List.set_cons_succ]
  refine r_take (i := 22) (v := ?_) rfl (by kernel_rfl) (by kernel_rfl) (by kernel_rfl) (fun _ _ _ h => h) (by kernel_rfl) hHeld ?_ ?_
  rotate_left
  · (intro w hSw; go_simp; try (with_reducible rfl))
  try simp only [Act.put, List.setIfInBounds_toArray, List.set_cons_zero, List.set_cons_succ]
  refine r_take (i := 23) (v := ?_) rfl (by kernel_rfl) (by kernel_rfl) (by kernel_rfl) (fun _ _ _ h => h) (by kernel_rfl) hHeld ?_ ?_
  rotate_left
  · (intro w hSw; go_simp; try (with_reducible rfl))
  try simp only [Act.put, List.setIfInBounds_toArray, List.set_cons_zero, List.set_cons_succ]
  refine wpAnyH_done (by kernel_rfl) ?_ _
  all_goals
    have HE := Ho.mk (g0.trans (((((((((((((Bel.refl _).trans b1).trans b2).alloc (.cells #[.bool (dneg u1), .slice A2 (digs (dm u1)).length c2, .int .i64 (de u1)] 24)).trans b3).alloc (.cells #[.bool (dneg u2), .slice A3 (digs (dm u2)).length c3, .int .i64 (de u2)] 24)).trans b4).trans b5).drew).trans b6).trans b7).trans b8).trans b9))
    go_wp2
    go_ret
    exact ⟨rfl, HE.out⟩
set_option maxRecDepth 100000 in
set_option maxHeartbeats 8000000 in
theorem order_no1_le {A0 : Option Addr} {c0 : Nat} {v0 : Int} {A1 : Option Addr} {c1 : Nat} {v1 : Int} {f g : Nat} (w : World) (T : Tab w) (p0 : Dv w A0 c0 v0 3000 3480) (p1 : Dv w A1 c1 v1 3000 3480) (hf : f < 2 * sgnW) (hg : g < 2 * sgnW) (h1 : ¬ frung f < infR) (ga : H1.goodB (dneg v0) (digs (dm v0)) (de v0) = true) (gb : H1.goodB (dneg v1) (digs (dm v1)) (de v1) = true) (h4 : v0 ≤ v1) :
    Calls Tryd.prog 12 #[.agg #[.bool (dneg v0), .slice A0 (digs (dm v0)).length c0, .int .i64 (de v0)], .agg #[.bool (dneg v1), .slice A1 (digs (dm v1)).length c1, .int .i64 (de v1)], .float .f64 f, .float .f64 g] w (Tells w (.bool true)) := by
  have TT := Ho.mk T
  have HO1 := Ho.mk (fun (W : World) (gw : Bel w W) => ofD (b := f) hf W (T.bel gw) (v := 0) (ok := false) (by first | exact fin_of h1 | exact inf_of h1) (by first | exact (decide_eq_true h1).symm | exact (decide_eq_false h1).symm))
  obtain ⟨u2, hu2⟩ : ∃ u, (if frung g < infR then fv g else 0) = u := ⟨_, rfl⟩
  obtain ⟨k2, hk2⟩ : ∃ k, decide (frung g < infR) = k := ⟨_, rfl⟩
  have HO2 := Ho.mk (fun (W : World) (gw : Bel w W) => ofD (b := g) hg W (T.bel gw) (v := u2) (ok := k2) hu2.symm hk2.symm)
  clear hu2 hk2
  obtain ⟨u1, hu1⟩ : ∃ u : Int, 0 = u := ⟨_, rfl⟩
  rw [hu1] at HO1
  clear hu1
  have HGA := Ho.mk (fun (W : World) (gw : Bel w W) => goodT (dneg v0) A0 c0 (digs (dm v0)) (de v0) W (p0.rd.bel gw) ga)
  have HGB := Ho.mk (fun (W : World) (gw : Bel w W) => goodT (dneg v1) A1 c1 (digs (dm v1)) (de v1) W (p1.rd.bel gw) gb)
  obtain ⟨rd, hrd⟩ : ∃ r, cmpI v0 v1 = r := ⟨_, rfl⟩
  have hrd0 : rd ≤ 0 := by rw [← hrd]; unfold cmpI; split <;> (try split) <;> omega
  have d1 : decide (0 < rd) = false := decide_eq_false (by omega)
  have HRD := Ho.mk hrd
  have cle := near_le h4
  clear hrd
  have cng := near_neg v0
  obtain ⟨na, hna⟩ : ∃ n, nw v0 = n := ⟨_, rfl⟩
  obtain ⟨nb, hnb⟩ : ∃ n, nw v1 = n := ⟨_, rfl⟩
  obtain ⟨nc, hnc⟩ : ∃ n, nw (-v0) = n := ⟨_, rfl⟩
  rw [hna, hnc] at cng
  rw [hna, hnb] at cle
  have hng := fun (W : World) => G9.run_neg na W
  generalize Op.negFloat .f64 na = nd at *
  have HNA := Ho.mk hna
  have HNB := Ho.mk hnb
  have HNC := Ho.mk hnc
  clear hna hnb hnc
  clear T hf hg ga gb h1 h4
  go_enter Tryd.func12, Tryd.ntmps12
  go_wp2_with fail
  have KB0 := Ho.mk ((Blk.new w [.bool (dneg v0), .slice A0 (digs (dm v0)).length c0, .int .i64 (de v0)] 24).old (.cells #[.bool (dneg v1), .slice A1 (digs (dm v1)).length c1, .int .i64 (de v1)] 24))
  have KB1 := Ho.mk (Blk.new (w.alloc (.cells #[.bool (dneg v0), .slice A0 (digs (dm v0)).length c0, .int .i64 (de v0)] 24)) [.bool (dneg v1), .slice A1 (digs (dm v1)).length c1, .int .i64 (de v1)] 24)
  have g0 := ((Bel.refl w).alloc (.cells #[.bool (dneg v0), .slice A0 (digs (dm v0)).length c0, .int .i64 (de v0)] 24)).alloc (.cells #[.bool (dneg v1), .slice A1 (digs (dm v1)).length c1, .int .i64 (de v1)] 24)
  rw [World.size_alloc] at KB1
  have hZ : ((w.alloc (.cells #[.bool (dneg v0), .slice A0 (digs (dm v0)).length c0, .int .i64 (de v0)] 24)).alloc (.cells #[.bool (dneg v1), .slice A1 (digs (dm v1)).length c1, .int .i64 (de v1)] 24)) = ((w.alloc (.cells #[.bool (dneg v0), .slice A0 (digs (dm v0)).length c0, .int .i64 (de v0)] 24)).alloc (.cells #[.bool (dneg v1), .slice A1 (digs (dm v1)).length c1, .int .i64 (de v1)] 24)) := rfl
  generalize ((w.alloc (.cells #[.bool (dneg v0), .slice A0 (digs (dm v0)).length c0, .int .i64 (de v0)] 24)).alloc (.cells #[.bool (dneg v1), .slice A1 (digs (dm v1)).length c1, .int .i64 (de v1)] 24)) = w0 at *
  clear hZ
  (with_reducible refine (headT _ (TT.out.bel (g0.trans (Bel.refl _)))).mono ?_); rintro e w1 ⟨rfl, b1⟩
  go_wp2_with fail
  (with_reducible refine (HO1.out _ (g0.trans ((Bel.refl _).trans b1))).mono ?_); rintro e w2 ⟨A2, c2, rfl, n2, b2⟩
  have KB10 := Ho.mk (Blk.new w2 [.bool (dneg u1), .slice A2 (digs (dm u1)).length c2, .int .i64 (de u1)] 24)
  go_wp2_with fail
  (with_reducible refine (HO2.out _ (g0.trans ((((Bel.refl _).trans b1).trans b2).alloc (.cells #[.bool (dneg u1), .slice A2 (digs (dm u1)).length c2, .int .i64 (de u1)] 24)))).mono ?_); rintro e w3 ⟨A3, c3, rfl, n3, b3⟩
  have KB12 := Ho.mk (Blk.new w3 [.bool (dneg u2), .slice A3 (digs (dm u2)).length c3, .int .i64 (de u2)] 24)
  have KB4_3x := Ho.mk ((KB0.out.bel ((((((Bel.refl _).trans b1).trans b2).alloc (.cells #[.bool (dneg u1), .slice A2 (digs (dm u1)).length c2, .int .i64 (de u1)] 24)).trans b3).alloc (.cells #[.bool (dneg u2), .slice A3 (digs (dm u2)).length c3, .int .i64 (de u2)] 24))))
  have yB4_3x_0 := KB4_3x.out.cell (i := 0) rfl
  have yB4_3x_1 := KB4_3x.out.cell (i := 1) rfl
  have yB4_3x_2 := KB4_3x.out.cell (i := 2) rfl
  go_wp2_with fail
  (with_reducible refine ((HGA.out _ (g0.trans ((((((Bel.refl _).trans b1).trans b2).alloc (.cells #[.bool (dneg u1), .slice A2 (digs (dm u1)).length c2, .int .i64 (de u1)] 24)).trans b3).alloc (.cells #[.bool (dneg u2), .slice A3 (digs (dm u2)).length c3, .int .i64 (de u2)] 24))))).mono ?_); rintro e w4 ⟨rfl, b4⟩
  clear yB4_3x_0 yB4_3x_1 yB4_3x_2
  have KB5_4 := Ho.mk ((KB1.out.bel (((((((Bel.refl _).trans b1).trans b2).alloc (.cells #[.bool (dneg u1), .slice A2 (digs (dm u1)).length c2, .int .i64 (de u1)] 24)).trans b3).alloc (.cells #[.bool (dneg u2), .slice A3 (digs (dm u2)).length c3, .int .i64 (de u2)] 24)).trans b4)))
  have yB5_4_0 := KB5_4.out.cell (i := 0) rfl
  have yB5_4_1 := KB5_4.out.cell (i := 1) rfl
  have yB5_4_2 := KB5_4.out.cell (i := 2) rfl
  go_wp2_with fail
  (with_reducible refine ((HGB.out _ (g0.trans (((((((Bel.refl _).trans b1).trans b2).alloc (.cells #[.bool (dneg u1), .slice A2 (digs (dm u1)).length c2, .int .i64 (de u1)] 24)).trans b3).alloc (.cells #[.bool (dneg u2), .slice A3 (digs (dm u2)).length c3, .int .i64 (de u2)] 24)).trans b4)))).mono ?_); rintro e w5 ⟨rfl, b5⟩
  clear yB5_4_0 yB5_4_1 yB5_4_2
  go_wp2_with fail
  have KB4_r8 := Ho.mk ((KB4_3x.out.bel (((Bel.refl _).trans b4).trans b5)))
  have yB4_r8_0 := KB4_r8.out.cell (i := 0) rfl
  have yB4_r8_1 := KB4_r8.out.cell (i := 1) rfl
  have yB4_r8_2 := KB4_r8.out.cell (i := 2) rfl
  have KB5_r8 := Ho.mk ((KB5_4.out.bel ((Bel.refl _).trans b5)))
  have yB5_r8_0 := KB5_r8.out.cell (i := 0) rfl
  have yB5_r8_1 := KB5_r8.out.cell (i := 1) rfl
  have yB5_r8_2 := KB5_r8.out.cell (i := 2) rfl
  refine wp_region_held_drew (S := fun w' => Bel w5 w') (by kernel_rfl) (Bel.refl _).drew (fun hHeld => ?_)
  (try dsimp only at hHeld)
  refine r_take (i := 0) (v := ?_) rfl (by kernel_rfl) (by kernel_rfl) (by kernel_rfl) (fun _ _ _ h => h) (by kernel_rfl) hHeld ?_ ?_
  rotate_left
  · (intro w hSw; go_simp; try (with_reducible rfl))
  try simp only [Act.put, List.setIfInBounds_toArray, List.set_cons_zero, List.set_cons_succ]
  refine r_take (i := 1) (v := ?_) rfl (by kernel_rfl) (by kernel_rfl) (by kernel_rfl) (fun _ _ _ h => h) (by kernel_rfl) hHeld ?_ ?_
  rotate_left
  · (intro w hSw; go_simp; try (with_reducible rfl))
  try simp only [Act.put, List.setIfInBounds_toArray, List.set_cons_zero, List.set_cons_succ]
  refine r_take (i := 2) (v := ?_) rfl (by kernel_rfl) (by kernel_rfl) (by kernel_rfl) (fun _ _ _ h => h) (by kernel_rfl) hHeld ?_ ?_
  rotate_left
  · (intro w hSw; have z0 := Bel.cell hSw yB4_r8_0; have z1 := Bel.cell hSw yB4_r8_1; have z2 := Bel.cell hSw yB4_r8_2; go_simp; try (with_reducible rfl))
  try simp only [Act.put, List.setIfInBounds_toArray, List.set_cons_zero, List.set_cons_succ]
  refine r_take (i := 3) (v := ?_) rfl (by kernel_rfl) (by kernel_rfl) (by kernel_rfl) (fun _ _ _ h => h) (by kernel_rfl) hHeld ?_ ?_
  rotate_left
  · (intro w hSw; have z0 := Bel.cell hSw yB5_r8_0; have z1 := Bel.cell hSw yB5_r8_1; have z2 := Bel.cell hSw yB5_r8_2; go_simp; try (with_reducible rfl))
  try simp only [Act.put, List.setIfInBounds_toArray, List.set_cons_zero, List.set_cons_succ]
  refine r_call (i := 4) (by kernel_rfl) rfl (by kernel_rfl) (fun K hK => ?_)
  go_simp
  go_at_call 25
  (with_reducible refine (F1.rCmp ((p0.bel g0).bel (((((((((Bel.refl _).trans b1).trans b2).alloc (.cells #[.bool (dneg u1), .slice A2 (digs (dm u1)).length c2, .int .i64 (de u1)] 24)).trans b3).alloc (.cells #[.bool (dneg u2), .slice A3 (digs (dm u2)).length c3, .int .i64 (de u2)] 24)).trans b4).trans b5).drew)) ((p1.bel g0).bel (((((((((Bel.refl _).trans b1).trans b2).alloc (.cells #[.bool (dneg u1), .slice A2 (digs (dm u1)).length c2, .int .i64 (de u1)] 24)).trans b3).alloc (.cells #[.bool (dneg u2), .slice A3 (digs (dm u2)).length c3, .int .i64 (de u2)] 24)).trans b4).trans b5).drew)) (by omega) (by omega) (r := rd) HRD.out).mono ?_); rintro e w6 ⟨rfl, b6⟩
  try go_wp2_with fail
  refine hK.out _ _ (Bel.trans hHeld b6) (fun hHeld => ?_)
  clear hK K
  try simp only [Act.put, List.setIfInBounds_toArray, List.set_cons_zero, List.set_cons_succ]
  refine r_take (i := 5) (v := ?_) rfl (by kernel_rfl) (by kernel_rfl) (by kernel_rfl) (fun _ _ _ h => h) (by kernel_rfl) hHeld ?_ ?_
  rotate_left
  · (intro w hSw; go_simp; try (with_reducible rfl))
  try simp only [Act.put, List.setIfInBounds_toArray, List.set_cons_zero, List.set_cons_succ]
  refine r_take (i := 6) (v := ?_) rfl (by kernel_rfl) (by kernel_rfl) (by kernel_rfl) (fun _ _ _ h => h) (by kernel_rfl) hHeld ?_ ?_
  rotate_left
  · (intro w hSw; go_simp; try (with_reducible rfl))
  try simp only [Act.put, List.setIfInBounds_toArray, List.set_cons_zero, List.set_cons_succ]
  refine r_take (i := 7) (v := ?_) rfl (by kernel_rfl) (by kernel_rfl) (by kernel_rfl) (fun _ _ _ h => h) (by kernel_rfl) hHeld ?_ ?_
  rotate_left
  · (intro w hSw; have z0 := Bel.cell hSw yB4_r8_0; have z1 := Bel.cell hSw yB4_r8_1; have z2 := Bel.cell hSw yB4_r8_2; go_simp; try (with_reducible rfl))
  try simp only [Act.put, List.setIfInBounds_toArray, List.set_cons_zero, List.set_cons_succ]
  refine r_take (i := 9) (v := ?_) rfl (by kernel_rfl) (by kernel_rfl) (by kernel_rfl) (fun _ _ _ h => h) (by kernel_rfl) hHeld ?_ ?_
  rotate_left
  · (intro w hSw; have z0 := Bel.cell hSw yB5_r8_0; have z1 := Bel.cell hSw yB5_r8_1; have z2 := Bel.cell hSw yB5_r8_2; go_simp; try (with_reducible rfl))
  try simp only [Act.put, List.setIfInBounds_toArray, List.set_cons_zero, List.set_cons_succ]
  refine r_call (i := 8) (by kernel_rfl) rfl (by kernel_rfl) (fun K hK => ?_)
  go_simp
  go_at_call 47
  (with_reducible refine (nearD ((p0.bel g0).bel ((((((((((Bel.refl _).trans b1).trans b2).alloc (.cells #[.bool (dneg u1), .slice A2 (digs (dm u1)).length c2, .int .i64 (de u1)] 24)).trans b3).alloc (.cells #[.bool (dneg u2), .slice A3 (digs (dm u2)).length c3, .int .i64 (de u2)] 24)).trans b4).trans b5).drew).trans b6)) (by omega) (by omega) (r := na) HNA.out).mono ?_); rintro e w7 ⟨rfl, b7⟩
  try go_wp2_with fail
  refine hK.out _ _ (Bel.trans hHeld b7) (fun hHeld => ?_)
  clear hK K
  try simp only [Act.put, List.setIfInBounds_toArray, List.set_cons_zero, List.set_cons_succ]
  refine r_call (i := 10) (by kernel_rfl) rfl (by kernel_rfl) (fun K hK => ?_)
  go_simp
  go_at_call 47
  (with_reducible refine (nearD ((p1.bel g0).bel (((((((((((Bel.refl _).trans b1).trans b2).alloc (.cells #[.bool (dneg u1), .slice A2 (digs (dm u1)).length c2, .int .i64 (de u1)] 24)).trans b3).alloc (.cells #[.bool (dneg u2), .slice A3 (digs (dm u2)).length c3, .int .i64 (de u2)] 24)).trans b4).trans b5).drew).trans b6).trans b7)) (by omega) (by omega) (r := nb) HNB.out).mono ?_); rintro e w8 ⟨rfl, b8⟩
  try go_wp2_with fail
  refine hK.out _ _ (Bel.trans hHeld b8) (fun hHeld => ?_)
  clear hK K
  try simp only [Act.put, List.setIfInBounds_toArray, List.set_cons_zero, List.set_cons_succ]
  refine r_take (i := 11) (v := ?_) rfl (by kernel_rfl) (by kernel_rfl) (by kernel_rfl) (fun _ _ _ h => h) (by kernel_rfl) hHeld ?_ ?_
  rotate_left
  · (intro w hSw; go_simp; try (with_reducible rfl))
  try simp only [Act.put, List.setIfInBounds_toArray, List.set_cons_zero, List.set_cons_succ]
  refine r_take (i := 12) (v := ?_) rfl (by kernel_rfl) (by kernel_rfl) (by kernel_rfl) (fun _ _ _ h => h) (by kernel_rfl) hHeld ?_ ?_
  rotate_left
  · (intro w hSw; go_simp; try (with_reducible rfl))
  try simp only [Act.put, List.setIfInBounds_toArray, List.set_cons_zero, List.set_cons_succ]
  refine r_take (i := 13) (v := ?_) rfl (by kernel_rfl) (by kernel_rfl) (by kernel_rfl) (fun _ _ _ h => h) (by kernel_rfl) hHeld ?_ ?_
  rotate_left
  · (intro w hSw; go_simp; try (with_reducible rfl))
  try simp only [Act.put, List.setIfInBounds_toArray, List.set_cons_zero, List.set_cons_succ]
  refine r_take (i := 14) (v := ?_) rfl (by kernel_rfl) (by kernel_rfl) (by kernel_rfl) (fun _ _ _ h => h) (by kernel_rfl) hHeld ?_ ?_
  rotate_left
  · (intro w hSw; go_simp; try (with_reducible rfl))
  try simp only [Act.put, List.setIfInBounds_toArray, List.set_cons_zero, List.set_cons_succ]
  refine r_take (i := 15) (v := ?_) rfl (by kernel_rfl) (by kernel_rfl) (by kernel_rfl) (fun _ _ _ h => h) (by kernel_rfl) hHeld ?_ ?_
  rotate_left
  · (intro w hSw; have z0 := Bel.cell hSw yB4_r8_0; have z1 := Bel.cell hSw yB4_r8_1; have z2 := Bel.cell hSw yB4_r8_2; go_simp; try (with_reducible rfl))
  try simp only [Act.put, List.setIfInBounds_toArray, List.set_cons_zero, List.set_cons_succ]
  refine r_take (i := 18) (v := ?_) rfl (by kernel_rfl) (by kernel_rfl) (by kernel_rfl) (fun _ _ _ h => h) (by kernel_rfl) hHeld ?_ ?_
  rotate_left
  · (intro w hSw; have z0 := Bel.cell hSw yB4_r8_0; have z1 := Bel.cell hSw yB4_r8_1; have z2 := Bel.cell hSw yB4_r8_2; go_simp; try (with_reducible rfl))
  try simp only [Act.put, List.setIfInBounds_toArray, List.set_cons_zero, List.set_cons_succ]
  refine r_call (i := 16) (by kernel_rfl) rfl (by kernel_rfl) (fun K hK => ?_)
  go_simp
  go_at_call 29
  (with_reducible refine (F1.rFlip ((p0.bel g0).bel ((((((((((((Bel.refl _).trans b1).trans b2).alloc (.cells #[.bool (dneg u1), .slice A2 (digs (dm u1)).length c2, .int .i64 (de u1)] 24)).trans b3).alloc (.cells #[.bool (dneg u2), .slice A3 (digs (dm u2)).length c3, .int .i64 (de u2)] 24)).trans b4).trans b5).drew).trans b6).trans b7).trans b8))).mono ?_); rintro e w9 ⟨A9, c9, rfl, n9, b9⟩
  try go_wp2_with fail
  refine hK.out _ _ (Bel.trans hHeld b9) (fun hHeld => ?_)
  clear hK K
  try simp only [Act.put, List.setIfInBounds_toArray, List.set_cons_zero, List.set_cons_succ]
  refine r_call (i := 17) (by kernel_rfl) rfl (by kernel_rfl) (fun K hK => ?_)
  go_simp
  go_at_call 47
  (with_reducible refine (nearD n9 (by omega) (by omega) (r := nc) HNC.out).mono ?_); rintro e w10 ⟨rfl, b10⟩
  try go_wp2_with fail
  refine hK.out _ _ (Bel.trans hHeld b10) (fun hHeld => ?_)
  clear hK K
  try simp only [Act.put, List.setIfInBounds_toArray, List.set_cons_zero, List.set_cons_succ]
  refine r_call (i := 19) (by kernel_rfl) rfl (by kernel_rfl) (fun K hK => ?_)
  go_simp
  go_at_call 47
  (with_reducible refine (nearD ((p0.bel g0).bel ((((((((((((((Bel.refl _).trans b1).trans b2).alloc (.cells #[.bool (dneg u1), .slice A2 (digs (dm u1)).length c2, .int .i64 (de u1)] 24)).trans b3).alloc (.cells #[.bool (dneg u2), .slice A3 (digs (dm u2)).length c3, .int .i64 (de u2)] 24)).trans b4).trans b5).drew).trans b6).trans b7).trans b8).trans b9).trans b10)) (by omega) (by omega) (r := na) HNA.out).mono ?_); rintro e w11 ⟨rfl, b11⟩
  try go_wp2_with fail
  refine hK.out _ _ (Bel.trans hHeld b11) (fun hHeld => ?_)
  clear hK K
  try simp only [Act.put, List.setIfInBounds_toArray, List.set_cons_zero, List.set_cons_succ]
  refine r_take (i := 20) (v := ?_) rfl (by kernel_rfl) (by kernel_rfl) (by kernel_rfl) (fun _ _ _ h => h) (by kernel_rfl) hHeld ?_ ?_
  rotate_left
  · (intro w hSw; go_simp; try (with_reducible rfl))
  try simp only [Act.put, List.setIfInBounds_toArray, List.set_cons_zero, List.set_cons_succ]
  refine r_take (i := 21) (v := ?_) rfl (by kernel_rfl) (by kernel_rfl) (by kernel_rfl) (fun _ _ _ h => h) (by kernel_rfl) hHeld ?_ ?_
  rotate_left
  · (intro w hSw; go_simp; try (with_reducible rfl))
  try simp only [Act.put, List.setIfInBounds_toArray, List.set_cons_zero, List.set_cons_succ]
  refine r_take (i := 22) (v := ?_) rfl (by kernel_rfl) (by kernel_rfl) (by kernel_rfl) (fun _ _ _ h => h) (by kernel_rfl) hHeld ?_ ?_
  rotate_left
  · (intro w hSw; go_simp; try (with_reducible rfl))
  try simp only [Act.put, List.setIfInBounds_toArray, List.set_cons_zero, List.set_cons_succ]
  refine r_take (i := 23) (v := ?_) rfl (by kernel_rfl) (by kernel_rfl) (by kernel_rfl) (fun _ _ _ h => h) (by kernel_rfl) hHeld ?_ ?_
  rotate_left
  · (intro w hSw; go_simp; try (with_reducible rfl))
  try simp only [Act.put, List.setIfInBounds_toArray, List.set_cons_zero, List.set_cons_succ]
  refine wpAnyH_done (by kernel_rfl) ?_ _
  all_goals
    have HE := Ho.mk (g0.trans (((((((((((((((Bel.refl _).trans b1).trans b2).alloc (.cells #[.bool (dneg u1), .slice A2 (digs (dm u1)).length c2, .int .i64 (de u1)] 24)).trans b3).alloc (.cells #[.bool (dneg u2), .slice A3 (digs (dm u2)).length c3, .int .i64 (de u2)] 24)).trans b4).trans b5).drew).trans b6).trans b7).trans b8).trans b9).trans b10).trans b11))
    go_wp2
    go_ret
    exact ⟨rfl, HE.out⟩
set_option maxRecDepth 100000 in
set_option maxHeartbeats 8000000 in
theorem order_no2_a0 (n0 : Bool) (A0 : Option Addr) (c0 : Nat) (l0 : List Int) (e0 : Int) (n1 : Bool) (A1 : Option Addr) (c1 : Nat) (l1 : List Int) (e1 : Int) {f g : Nat} (w : World) (T : Tab w) (hr0 : Rd w A0 l0) (hr1 : Rd w A1 l1) (hf : f < 2 * sgnW) (hg : g < 2 * sgnW) (h1 : frung f < infR) (h2 : ¬ frung g < infR) (ga : H1.goodB n0 l0 e0 = false) :
    Calls Tryd.prog 12 #[.agg #[.bool n0, .slice A0 l0.length c0, .int .i64 e0], .agg #[.bool n1, .slice A1 l1.length c1, .int .i64 e1], .float .f64 f, .float .f64 g] w (Tells w (.bool true)) := by
  have TT := Ho.mk T
  have HO1 := Ho.mk (fun (W : World) (gw : Bel w W) => ofD (b := f) hf W (T.bel gw) (v := fv f) (ok := true) (by first | exact fin_of h1 | exact inf_of h1) (by first | exact (decide_eq_true h1).symm | exact (decide_eq_false h1).symm))
  have HO2 := Ho.mk (fun (W : World) (gw : Bel w W) => ofD (b := g) hg W (T.bel gw) (v := 0) (ok := false) (inf_of h2) (decide_eq_false h2).symm)
  obtain ⟨u2, hu2⟩ : ∃ u : Int, 0 = u := ⟨_, rfl⟩
  rw [hu2] at HO2
  clear hu2
  obtain ⟨u1, hu1⟩ : ∃ u : Int, fv f = u := ⟨_, rfl⟩
  rw [hu1] at HO1
  clear hu1
  have HGA := Ho.mk (fun (W : World) (gw : Bel w W) => goodT n0 A0 c0 l0 e0 W (hr0.bel gw) ga)
  clear T hf hg ga h1 h2
  go_enter Tryd.func12, Tryd.ntmps12
  go_wp2_with fail
  have KB0 := Ho.mk ((Blk.new w [.bool n0, .slice A0 l0.length c0, .int .i64 e0] 24).old (.cells #[.bool n1, .slice A1 l1.length c1, .int .i64 e1] 24))
  have KB1 := Ho.mk (Blk.new (w.alloc (.cells #[.bool n0, .slice A0 l0.length c0, .int .i64 e0] 24)) [.bool n1, .slice A1 l1.length c1, .int .i64 e1] 24)
  have g0 := ((Bel.refl w).alloc (.cells #[.bool n0, .slice A0 l0.length c0, .int .i64 e0] 24)).alloc (.cells #[.bool n1, .slice A1 l1.length c1, .int .i64 e1] 24)
  rw [World.size_alloc] at KB1
  have hZ : ((w.alloc (.cells #[.bool n0, .slice A0 l0.length c0, .int .i64 e0] 24)).alloc (.cells #[.bool n1, .slice A1 l1.length c1, .int .i64 e1] 24)) = ((w.alloc (.cells #[.bool n0, .slice A0 l0.length c0, .int .i64 e0] 24)).alloc (.cells #[.bool n1, .slice A1 l1.length c1, .int .i64 e1] 24)) := rfl
  generalize ((w.alloc (.cells #[.bool n0, .slice A0 l0.length c0, .int .i64 e0] 24)).alloc (.cells #[.bool n1, .slice A1 l1.length c1, .int .i64 e1] 24)) = w0 at *
  clear hZ
  (with_reducible refine (headT _ (TT.out.bel (g0.trans (Bel.refl _)))).mono ?_); rintro e w1 ⟨rfl, b1⟩
  go_wp2_with fail
  (with_reducible refine (HO1.out _ (g0.trans ((Bel.refl _).trans b1))).mono ?_); rintro e w2 ⟨A2, c2, rfl, n2, b2⟩
  have KB10 := Ho.mk (Blk.new w2 [.bool (dneg u1), .slice A2 (digs (dm u1)).length c2, .int .i64 (de u1)] 24)
  go_wp2_with fail
  (with_reducible refine (HO2.out _ (g0.trans ((((Bel.refl _).trans b1).trans b2).alloc (.cells #[.bool (dneg u1), .slice A2 (digs (dm u1)).length c2, .int .i64 (de u1)] 24)))).mono ?_); rintro e w3 ⟨A3, c3, rfl, n3, b3⟩
  have KB12 := Ho.mk (Blk.new w3 [.bool (dneg u2), .slice A3 (digs (dm u2)).length c3, .int .i64 (de u2)] 24)
  have KB4_3x := Ho.mk ((KB0.out.bel ((((((Bel.refl _).trans b1).trans b2).alloc (.cells #[.bool (dneg u1), .slice A2 (digs (dm u1)).length c2, .int .i64 (de u1)] 24)).trans b3).alloc (.cells #[.bool (dneg u2), .slice A3 (digs (dm u2)).length c3, .int .i64 (de u2)] 24))))
  have yB4_3x_0 := KB4_3x.out.cell (i := 0) rfl
  have yB4_3x_1 := KB4_3x.out.cell (i := 1) rfl
  have yB4_3x_2 := KB4_3x.out.cell (i := 2) rfl
  go_wp2_with fail
  (with_reducible refine ((HGA.out _ (g0.trans ((((((Bel.refl _).trans b1).trans b2).alloc (.cells #[.bool (dneg u1), .slice A2 (digs (dm u1)).length c2, .int .i64 (de u1)] 24)).trans b3).alloc (.cells #[.bool (dneg u2), .slice A3 (digs (dm u2)).length c3, .int .i64 (de u2)] 24))))).mono ?_); rintro e w4 ⟨rfl, b4⟩
  clear yB4_3x_0 yB4_3x_1 yB4_3x_2
  all_goals
    have HE := Ho.mk (g0.trans (((((((Bel.refl _).trans b1).trans b2).alloc (.cells #[.bool (dneg u1), .slice A2 (digs (dm u1)).length c2, .int .i64 (de u1)] 24)).trans b3).alloc (.cells #[.bool (dneg u2), .slice A3 (digs (dm u2)).length c3, .int .i64 (de u2)] 24)).trans b4))
    go_wp2
    go_ret
    exact ⟨rfl, HE.out⟩
set_option maxRecDepth 100000 in
set_option maxHeartbeats 8000000 in
theorem order_no2_b0 (n0 : Bool) (A0 : Option Addr) (c0 : Nat) (l0 : List Int) (e0 : Int) (n1 : Bool) (A1 : Option Addr) (c1 : Nat) (l1 : List Int) (e1 : Int) {f g : Nat} (w : World) (T : Tab w) (hr0 : Rd w A0 l0) (hr1 : Rd w A1 l1) (hf : f < 2 * sgnW) (hg : g < 2 * sgnW) (h1 : frung f < infR) (h2 : ¬ frung g < infR) (ga : H1.goodB n0 l0 e0 = true) (gb : H1.goodB n1 l1 e1 = false) :
    Calls Tryd.prog 12 #[.agg #[.bool n0, .slice A0 l0.length c0, .int .i64 e0], .agg #[.bool n1, .slice A1 l1.length c1, .int .i64 e1], .float .f64 f, .float .f64 g] w (Tells w (.bool true)) := by
  have TT := Ho.mk T
  have HO1 := Ho.mk (fun (W : World) (gw : Bel w W) => ofD (b := f) hf W (T.bel gw) (v := fv f) (ok := true) (by first | exact fin_of h1 | exact inf_of h1) (by first | exact (decide_eq_true h1).symm | exact (decide_eq_false h1).symm))
  have HO2 := Ho.mk (fun (W : World) (gw : Bel w W) => ofD (b := g) hg W (T.bel gw) (v := 0) (ok := false) (inf_of h2) (decide_eq_false h2).symm)
  obtain ⟨u2, hu2⟩ : ∃ u : Int, 0 = u := ⟨_, rfl⟩
  rw [hu2] at HO2
  clear hu2
  obtain ⟨u1, hu1⟩ : ∃ u : Int, fv f = u := ⟨_, rfl⟩
  rw [hu1] at HO1
  clear hu1
  have HGA := Ho.mk (fun (W : World) (gw : Bel w W) => goodT n0 A0 c0 l0 e0 W (hr0.bel gw) ga)
  have HGB := Ho.mk (fun (W : World) (gw : Bel w W) => goodT n1 A1 c1 l1 e1 W (hr1.bel gw) gb)
  clear T hf hg ga gb h1 h2
  go_enter Tryd.func12, Tryd.ntmps12
  go_wp2_with fail
  have KB0 := Ho.mk ((Blk.new w [.bool n0, .slice A0 l0.length c0, .int .i64 e0] 24).old (.cells #[.bool n1, .slice A1 l1.length c1, .int .i64 e1] 24))
  have KB1 := Ho.mk (Blk.new (w.alloc (.cells #[.bool n0, .slice A0 l0.length c0, .int .i64 e0] 24)) [.bool n1, .slice A1 l1.length c1, .int .i64 e1] 24)
  have g0 := ((Bel.refl w).alloc (.cells #[.bool n0, .slice A0 l0.length c0, .int .i64 e0] 24)).alloc (.cells #[.bool n1, .slice A1 l1.length c1, .int .i64 e1] 24)
  rw [World.size_alloc] at KB1
  have hZ : ((w.alloc (.cells #[.bool n0, .slice A0 l0.length c0, .int .i64 e0] 24)).alloc (.cells #[.bool n1, .slice A1 l1.length c1, .int .i64 e1] 24)) = ((w.alloc (.cells #[.bool n0, .slice A0 l0.length c0, .int .i64 e0] 24)).alloc (.cells #[.bool n1, .slice A1 l1.length c1, .int .i64 e1] 24)) := rfl
  generalize ((w.alloc (.cells #[.bool n0, .slice A0 l0.length c0, .int .i64 e0] 24)).alloc (.cells #[.bool n1, .slice A1 l1.length c1, .int .i64 e1] 24)) = w0 at *
  clear hZ
  (with_reducible refine (headT _ (TT.out.bel (g0.trans (Bel.refl _)))).mono ?_); rintro e w1 ⟨rfl, b1⟩
  go_wp2_with fail
  (with_reducible refine (HO1.out _ (g0.trans ((Bel.refl _).trans b1))).mono ?_); rintro e w2 ⟨A2, c2, rfl, n2, b2⟩
  have KB10 := Ho.mk (Blk.new w2 [.bool (dneg u1), .slice A2 (digs (dm u1)).length c2, .int .i64 (de u1)] 24)
  go_wp2_with fail
  (with_reducible refine (HO2.out _ (g0.trans ((((Bel.refl _).trans b1).trans b2).alloc (.cells #[.bool (dneg u1), .slice A2 (digs (dm u1)).length c2, .int .i64 (de u1)] 24)))).mono ?_); rintro e w3 ⟨A3, c3, rfl, n3, b3⟩
  have KB12 := Ho.mk (Blk.new w3 [.bool (dneg u2), .slice A3 (digs (dm u2)).length c3, .int .i64 (de u2)] 24)
  have KB4_3x := Ho.mk ((KB0.out.bel ((((((Bel.refl _).trans b1).trans b2).alloc (.cells #[.bool (dneg u1), .slice A2 (digs (dm u1)).length c2, .int .i64 (de u1)] 24)).trans b3).alloc (.cells #[.bool (dneg u2), .slice A3 (digs (dm u2)).length c3, .int .i64 (de u2)] 24))))
  have yB4_3x_0 := KB4_3x.out.cell (i := 0) rfl
  have yB4_3x_1 := KB4_3x.out.cell (i := 1) rfl
  have yB4_3x_2 := KB4_3x.out.cell (i := 2) rfl
  go_wp2_with fail
  (with_reducible refine ((HGA.out _ (g0.trans ((((((Bel.refl _).trans b1).trans b2).alloc (.cells #[.bool (dneg u1), .slice A2 (digs (dm u1)).length c2, .int .i64 (de u1)] 24)).trans b3).alloc (.cells #[.bool (dneg u2), .slice A3 (digs (dm u2)).length c3, .int .i64 (de u2)] 24))))).mono ?_); rintro e w4 ⟨rfl, b4⟩
  clear yB4_3x_0 yB4_3x_1 yB4_3x_2
  have KB5_4 := Ho.mk ((KB1.out.bel (((((((Bel.refl _).trans b1).trans b2).alloc (.cells #[.bool (dneg u1), .slice A2 (digs (dm u1)).length c2, .int .i64 (de u1)] 24)).trans b3).alloc (.cells #[.bool (dneg u2), .slice A3 (digs (dm u2)).length c3, .int .i64 (de u2)] 24)).trans b4)))
  have yB5_4_0 := KB5_4.out.cell (i := 0) rfl
  have yB5_4_1 := KB5_4.out.cell (i := 1) rfl
  have yB5_4_2 := KB5_4.out.cell (i := 2) rfl
  go_wp2_with fail
  (with_reducible refine ((HGB.out _ (g0.trans (((((((Bel.refl _).trans b1).trans b2).alloc (.cells #[.bool (dneg u1), .slice A2 (digs (dm u1)).length c2, .int .i64 (de u1)] 24)).trans b3).alloc (.cells #[.bool (dneg u2), .slice A3 (digs (dm u2)).length c3, .int .i64 (de u2)] 24)).trans b4)))).mono ?_); rintro e w5 ⟨rfl, b5⟩
  clear yB5_4_0 yB5_4_1 yB5_4_2
  all_goals
    have HE := Ho.mk (g0.trans ((((((((Bel.refl _).trans b1).trans b2).alloc (.cells #[.bool (dneg u1), .slice A2 (digs (dm u1)).length c2, .int .i64 (de u1)] 24)).trans b3).alloc (.cells #[.bool (dneg u2), .slice A3 (digs (dm u2)).length c3, .int .i64 (de u2)] 24)).trans b4).trans b5))
    go_wp2
    go_ret
    exact ⟨rfl, HE.out⟩
set_option maxRecDepth 100000 in
set_option maxHeartbeats 8000000 in
theorem order_no2_gr {A0 : Option Addr} {c0 : Nat} {v0 : Int} {A1 : Option Addr} {c1 : Nat} {v1 : Int} {f g : Nat} (w : World) (T : Tab w) (p0 : Dv w A0 c0 v0 3000 3480) (p1 : Dv w A1 c1 v1 3000 3480) (hf : f < 2 * sgnW) (hg : g < 2 * sgnW) (h1 : frung f < infR) (h2 : ¬ frung g < infR) (ga : H1.goodB (dneg v0) (digs (dm v0)) (de v0) = true) (gb : H1.goodB (dneg v1) (digs (dm v1)) (de v1) = true) (h4 : v1 < v0) :
    Calls Tryd.prog 12 #[.agg #[.bool (dneg v0), .slice A0 (digs (dm v0)).length c0, .int .i64 (de v0)], .agg #[.bool (dneg v1), .slice A1 (digs (dm v1)).length c1, .int .i64 (de v1)], .float .f64 f, .float .f64 g] w (Tells w (.bool true)) := by
  have TT := Ho.mk T
  have HO1 := Ho.mk (fun (W : World) (gw : Bel w W) => ofD (b := f) hf W (T.bel gw) (v := fv f) (ok := true) (by first | exact fin_of h1 | exact inf_of h1) (by first | exact (decide_eq_true h1).symm | exact (decide_eq_false h1).symm))
  have HO2 := Ho.mk (fun (W : World) (gw : Bel w W) => ofD (b := g) hg W (T.bel gw) (v := 0) (ok := false) (inf_of h2) (decide_eq_false h2).symm)
  obtain ⟨u2, hu2⟩ : ∃ u : Int, 0 = u := ⟨_, rfl⟩
  rw [hu2] at HO2
  clear hu2
  obtain ⟨u1, hu1⟩ : ∃ u : Int, fv f = u := ⟨_, rfl⟩
  rw [hu1] at HO1
  clear hu1
  have HGA := Ho.mk (fun (W : World) (gw : Bel w W) => goodT (dneg v0) A0 c0 (digs (dm v0)) (de v0) W (p0.rd.bel gw) ga)
  have HGB := Ho.mk (fun (W : World) (gw : Bel w W) => goodT (dneg v1) A1 c1 (digs (dm v1)) (de v1) W (p1.rd.bel gw) gb)
  obtain ⟨rd, hrd⟩ : ∃ r, cmpI v0 v1 = r := ⟨_, rfl⟩
  have d1 : decide (0 < rd) = true := decide_eq_true (by rw [← hrd, cmpI_gt h4]; decide)
  have HRD := Ho.mk hrd
  clear hrd
  have cng := near_neg v0
  obtain ⟨na, hna⟩ : ∃ n, nw v0 = n := ⟨_, rfl⟩
  obtain ⟨nb, hnb⟩ : ∃ n, nw v1 = n := ⟨_, rfl⟩
  obtain ⟨nc, hnc⟩ : ∃ n, nw (-v0) = n := ⟨_, rfl⟩
  rw [hna, hnc] at cng
  have hng := fun (W : World) => G9.run_neg na W
  generalize Op.negFloat .f64 na = nd at *
  have HNA := Ho.mk hna
  have HNB := Ho.mk hnb
  have HNC := Ho.mk hnc
  clear hna hnb hnc
  clear T hf hg ga gb h1 h2 h4
  go_enter Tryd.func12, Tryd.ntmps12
  go_wp2_with fail
  have KB0 := Ho.mk ((Blk.new w [.bool (dneg v0), .slice A0 (digs (dm v0)).length c0, .int .i64 (de v0)] 24).old (.cells #[.bool (dneg v1), .slice A1 (digs (dm v1)).length c1, .int .i64 (de v1)] 24))
  have KB1 := Ho.mk (Blk.new (w.alloc (.cells #[.bool (dneg v0), .slice A0 (digs (dm v0)).length c0, .int .i64 (de v0)] 24)) [.bool (dneg v1), .slice A1 (digs (dm v1)).length c1, .int .i64 (de v1)] 24)
  have g0 := ((Bel.refl w).alloc (.cells #[.bool (dneg v0), .slice A0 (digs (dm v0)).length c0, .int .i64 (de v0)] 24)).alloc (.cells #[.bool (dneg v1), .slice A1 (digs (dm v1)).length c1, .int .i64 (de v1)] 24)
  rw [World.size_alloc] at KB1
  have hZ : ((w.alloc (.cells #[.bool (dneg v0), .slice A0 (digs (dm v0)).length c0, .int .i64 (de v0)] 24)).alloc (.cells #[.bool (dneg v1), .slice A1 (digs (dm v1)).length c1, .int .i64 (de v1)] 24)) = ((w.alloc (.cells #[.bool (dneg v0), .slice A0 (digs (dm v0)).length c0, .int .i64 (de v0)] 24)).alloc (.cells #[.bool (dneg v1), .slice A1 (digs (dm v1)).length c1, .int .i64 (de v1)] 24)) := rfl
  generalize ((w.alloc (.cells #[.bool (dneg v0), .slice A0 (digs (dm v0)).length c0, .int .i64 (de v0)] 24)).alloc (.cells #[.bool (dneg v1), .slice A1 (digs (dm v1)).length c1, .int .i64 (de v1)] 24)) = w0 at *
  clear hZ
  (with_reducible refine (headT _ (TT.out.bel (g0.trans (Bel.refl _)))).mono ?_); rintro e w1 ⟨rfl, b1⟩
  go_wp2_with fail
  (with_reducible refine (HO1.out _ (g0.trans ((Bel.refl _).trans b1))).mono ?_); rintro e w2 ⟨A2, c2, rfl, n2, b2⟩
  have KB10 := Ho.mk (Blk.new w2 [.bool (dneg u1), .slice A2 (digs (dm u1)).length c2, .int .i64 (de u1)] 24)
  go_wp2_with fail
  (with_reducible refine (HO2.out _ (g0.trans ((((Bel.refl _).trans b1).trans b2).alloc (.cells #[.bool (dneg u1), .slice A2 (digs (dm u1)).length c2, .int .i64 (de u1)] 24)))).mono ?_); rintro e w3 ⟨A3, c3, rfl, n3, b3⟩
  have KB12 := Ho.mk (Blk.new w3 [.bool (dneg u2), .slice A3 (digs (dm u2)).length c3, .int .i64 (de u2)] 24)
  have KB4_3x := Ho.mk ((KB0.out.bel ((((((Bel.refl _).trans b1).trans b2).alloc (.cells #[.bool (dneg u1), .slice A2 (digs (dm u1)).length c2, .int .i64 (de u1)] 24)).trans b3).alloc (.cells #[.bool (dneg u2), .slice A3 (digs (dm u2)).length c3, .int .i64 (de u2)] 24))))
  have yB4_3x_0 := KB4_3x.out.cell (i := 0) rfl
  have yB4_3x_1 := KB4_3x.out.cell (i := 1) rfl
  have yB4_3x_2 := KB4_3x.out.cell (i := 2) rfl
  go_wp2_with fail
  (with_reducible refine ((HGA.out _ (g0.trans ((((((Bel.refl _).trans b1).trans b2).alloc (.cells #[.bool (dneg u1), .slice A2 (digs (dm u1)).length c2, .int .i64 (de u1)] 24)).trans b3).alloc (.cells #[.bool (dneg u2), .slice A3 (digs (dm u2)).length c3, .int .i64 (de u2)] 24))))).mono ?_); rintro e w4 ⟨rfl, b4⟩
  clear yB4_3x_0 yB4_3x_1 yB4_3x_2
  have KB5_4 := Ho.mk ((KB1.out.bel (((((((Bel.refl _).trans b1).trans b2).alloc (.cells #[.bool (dneg u1), .slice A2 (digs (dm u1)).length c2, .int .i64 (de u1)] 24)).trans b3).alloc (.cells #[.bool (dneg u2), .slice A3 (digs (dm u2)).length c3, .int .i64 (de u2)] 24)).trans b4)))
  have yB5_4_0 := KB5_4.out.cell (i := 0) rfl
  have yB5_4_1 := KB5_4.out.cell (i := 1) rfl
  have yB5_4_2 := KB5_4.out.cell (i := 2) rfl
  go_wp2_with fail
  (with_reducible refine ((HGB.out _ (g0.trans (((((((Bel.refl _).trans b1).trans b2).alloc (.cells #[.bool (dneg u1), .slice A2 (digs (dm u1)).length c2, .int .i64 (de u1)] 24)).trans b3).alloc (.cells #[.bool (dneg u2), .slice A3 (digs (dm u2)).length c3, .int .i64 (de u2)] 24)).trans b4)))).mono ?_); rintro e w5 ⟨rfl, b5⟩
  clear yB5_4_0 yB5_4_1 yB5_4_2
  go_wp2_with fail
  have KB4_r8 := Ho.mk ((KB4_3x.out.bel (((Bel.refl _).trans b4).trans b5)))
  have yB4_r8_0 := KB4_r8.out.cell (i := 0) rfl
  have yB4_r8_1 := KB4_r8.out.cell (i := 1) rfl
  have yB4_r8_2 := KB4_r8.out.cell (i := 2) rfl
  have KB5_r8 := Ho.mk ((KB5_4.out.bel ((Bel.refl _).trans b5)))
  have yB5_r8_0 := KB5_r8.out.cell (i := 0) rfl
  have yB5_r8_1 := KB5_r8.out.cell (i := 1) rfl
  have yB5_r8_2 := KB5_r8.out.cell (i := 2) rfl
  refine wp_region_held_drew (S := fun w' => Bel w5 w') (by kernel_rfl) (Bel.refl _).drew (fun hHeld => ?_)
  (try dsimp only at hHeld)
  refine r_take (i := 0) (v := ?_) rfl (by kernel_rfl) (by kernel_rfl) (by kernel_rfl) (fun _ _ _ h => h) (by kernel_rfl) hHeld ?_ ?_
  rotate_left
  · (intro w hSw; go_simp; try (with_reducible rfl))
  try simp only [Act.put, List.setIfInBounds_toArray, List.set_cons_zero, List.set_cons_succ]
  refine r_take (i := 1) (v := ?_) rfl (by kernel_rfl) (by kernel_rfl) (by kernel_rfl) (fun _ _ _ h => h) (by kernel_rfl) hHeld ?_ ?_
  rotate_left
  · (intro w hSw; go_simp; try (with_reducible rfl))
  try simp only [Act.put, List.setIfInBounds_toArray, List.set_cons_zero, List.set_cons_succ]
  refine r_take (i := 2) (v := ?_) rfl (by kernel_rfl) (by kernel_rfl) (by kernel_rfl) (fun _ _ _ h => h) (by kernel_rfl) hHeld ?_ ?_
  rotate_left
  · (intro w hSw; have z0 := Bel.cell hSw yB4_r8_0; have z1 := Bel.cell hSw yB4_r8_1; have z2 := Bel.cell hSw yB4_r8_2; go_simp; try (with_reducible rfl))
  try simp only [Act.put, List.setIfInBounds_toArray, List.set_cons_zero, List.set_cons_succ]
  refine r_take (i := 3) (v := ?_) rfl (by kernel_rfl) (by kernel_rfl) (by kernel_rfl) (fun _ _ _ h => h) (by kernel_rfl) hHeld ?_ ?_
  rotate_left
  · (intro w hSw; have z0 := Bel.cell hSw yB5_r8_0; have z1 := Bel.cell hSw yB5_r8_1; have z2 := Bel.cell hSw yB5_r8_2; go_simp; try (with_reducible rfl))
  try simp only [Act.put, List.setIfInBounds_toArray, List.set_cons_zero, List.set_cons_succ]
  refine r_call (i := 4) (by kernel_rfl) rfl (by kernel_rfl) (fun K hK => ?_)
  go_simp
  go_at_call 25
  (with_reducible refine (F1.rCmp ((p0.bel g0).bel (((((((((Bel.refl _).trans b1).trans b2).alloc (.cells #[.bool (dneg u1), .slice A2 (digs (dm u1)).length c2, .int .i64 (de u1)] 24)).trans b3).alloc (.cells #[.bool (dneg u2), .slice A3 (digs (dm u2)).length c3, .int .i64 (de u2)] 24)).trans b4).trans b5).drew)) ((p1.bel g0).bel (((((((((Bel.refl _).trans b1).trans b2).alloc (.cells #[.bool (dneg u1), .slice A2 (digs (dm u1)).length c2, .int .i64 (de u1)] 24)).trans b3).alloc (.cells #[.bool (dneg u2), .slice A3 (digs (dm u2)).length c3, .int .i64 (de u2)] 24)).trans b4).trans b5).drew)) (by omega) (by omega) (r := rd) HRD.out).mono ?_); rintro e w6 ⟨rfl, b6⟩
  try go_wp2_with fail
  refine hK.out _ _ (Bel.trans hHeld b6) (fun hHeld => ?_)
  clear hK K
  try simp only [Act.put, List.setIfInBounds_toArray, List.set_cons_zero, List.set_cons_succ]
  refine r_take (i := 5) (v := ?_) rfl (by kernel_rfl) (by kernel_rfl) (by kernel_rfl) (fun _ _ _ h => h) (by kernel_rfl) hHeld ?_ ?_
  rotate_left
  · (intro w hSw; go_simp; try (with_reducible rfl))
  try simp only [Act.put, List.setIfInBounds_toArray, List.set_cons_zero, List.set_cons_succ]
  refine r_take (i := 6) (v := ?_) rfl (by kernel_rfl) (by kernel_rfl) (by kernel_rfl) (fun _ _ _ h => h) (by kernel_rfl) hHeld ?_ ?_
  rotate_left
  · (intro w hSw; go_simp; try (with_reducible rfl))
  try simp only [Act.put, List.setIfInBounds_toArray, List.set_cons_zero, List.set_cons_succ]
  refine r_not (i := 7) rfl (by kernel_rfl) (by kernel_rfl) (by kernel_rfl) (fun _ _ _ h => h) (by kernel_rfl) hHeld ?_
  try simp only [Act.put, List.setIfInBounds_toArray, List.set_cons_zero, List.set_cons_succ]
  refine r_not (i := 8) rfl (by kernel_rfl) (by kernel_rfl) (by kernel_rfl) (fun _ _ _ h => h) (by kernel_rfl) hHeld ?_
  try simp only [Act.put, List.setIfInBounds_toArray, List.set_cons_zero, List.set_cons_succ]
  refine r_not (i := 9) rfl (by kernel_rfl) (by kernel_rfl) (by kernel_rfl) (fun _ _ _ h => h) (by kernel_rfl) hHeld ?_
  try simp only [Act.put, List.setIfInBounds_toArray, List.set_cons_zero, List.set_cons_succ]
  refine r_not (i := 10) rfl (by kernel_rfl) (by kernel_rfl) (by kernel_rfl) (fun _ _ _ h => h) (by kernel_rfl) hHeld ?_
  try simp only [Act.put, List.setIfInBounds_toArray, List.set_cons_zero, List.set_cons_succ]
  refine r_not (i := 11) rfl (by kernel_rfl) (by kernel_rfl) (by kernel_rfl) (fun _ _ _ h => h) (by kernel_rfl) hHeld ?_
  try simp only [Act.put, List.setIfInBounds_toArray, List.set_cons_zero, List.set_cons_succ]
  refine r_take (i := 12) (v := ?_) rfl (by kernel_rfl) (by kernel_rfl) (by kernel_rfl) (fun _ _ _ h => h) (by kernel_rfl) hHeld ?_ ?_
  rotate_left
  · (intro w hSw; go_simp; try (with_reducible rfl))
  try simp only [Act.put, List.setIfInBounds_toArray, List.set_cons_zero, List.set_cons_succ]
  refine r_take (i := 13) (v := ?_) rfl (by kernel_rfl) (by kernel_rfl) (by kernel_rfl) (fun _ _ _ h => h) (by kernel_rfl) hHeld ?_ ?_
  rotate_left
  · (intro w hSw; go_simp; try (with_reducible rfl))
  try simp only [Act.put, List.setIfInBounds_toArray, List.set_cons_zero, List.set_cons_succ]
  refine r_take (i := 14) (v := ?_) rfl (by kernel_rfl) (by kernel_rfl) (by kernel_rfl) (fun _ _ _ h => h) (by kernel_rfl) hHeld ?_ ?_
  rotate_left
  · (intro w hSw; go_simp; try (with_reducible rfl))
  try simp only [Act.put, List.setIfInBounds_toArray, List.set_cons_zero, List.set_cons_succ]
  refine r_take (i := 15) (v := ?_) rfl (by kernel_rfl) (by kernel_rfl) (by kernel_rfl) (fun _ _ _ h => h) (by kernel_rfl) hHeld ?_ ?_
  rotate_left
  · (intro w hSw; have z0 := Bel.cell hSw yB4_r8_0; have z1 := Bel.cell hSw yB4_r8_1; have z2 := Bel.cell hSw yB4_r8_2; go_simp; try (with_reducible rfl))
  try simp only [Act.put, List.setIfInBounds_toArray, List.set_cons_zero, List.set_cons_succ]
  refine r_take (i := 18) (v := ?_) rfl (by kernel_rfl) (by kernel_rfl) (by kernel_rfl) (fun _ _ _ h => h) (by kernel_rfl) hHeld ?_ ?_
  rotate_left
  · (intro w hSw; have z0 := Bel.cell hSw yB4_r8_0; have z1 := Bel.cell hSw yB4_r8_1; have z2 := Bel.cell hSw yB4_r8_2; go_simp; try (with_reducible rfl))
  try simp only [Act.put, List.setIfInBounds_toArray, List.set_cons_zero, List.set_cons_succ]
  refine r_call (i := 16) (by kernel_rfl) rfl (by kernel_rfl) (fun K hK => ?_)
  go_simp
  go_at_call 29
  (with_reducible refine (F1.rFlip ((p0.bel g0).bel ((((((((((Bel.refl _).trans b1).trans b2).alloc (.cells #[.bool (dneg u1), .slice A2 (digs (dm u1)).length c2, .int .i64 (de u1)] 24)).trans b3).alloc (.cells #[.bool (dneg u2), .slice A3 (digs (dm u2)).length c3, .int .i64 (de u2)] 24)).trans b4).trans b5).drew).trans b6))).mono ?_); rintro e w7 ⟨A7, c7, rfl, n7, b7⟩
  try go_wp2_with fail
  refine hK.out _ _ (Bel.trans hHeld b7) (fun hHeld => ?_)
  clear hK K
  try simp only [Act.put, List.setIfInBounds_toArray, List.set_cons_zero, List.set_cons_succ]
  refine r_call (i := 17) (by kernel_rfl) rfl (by kernel_rfl) (fun K hK => ?_)
  go_simp
  go_at_call 47
  (with_reducible refine (nearD n7 (by omega) (by omega) (r := nc) HNC.out).mono ?_); rintro e w8 ⟨rfl, b8⟩
  try go_wp2_with fail
  refine hK.out _ _ (Bel.trans hHeld b8) (fun hHeld => ?_)
  clear hK K
  try simp only [Act.put, List.setIfInBounds_toArray, List.set_cons_zero, List.set_cons_succ]
  refine r_call (i := 19) (by kernel_rfl) rfl (by kernel_rfl) (fun K hK => ?_)
  go_simp
  go_at_call 47
  (with_reducible refine (nearD ((p0.bel g0).bel ((((((((((((Bel.refl _).trans b1).trans b2).alloc (.cells #[.bool (dneg u1), .slice A2 (digs (dm u1)).length c2, .int .i64 (de u1)] 24)).trans b3).alloc (.cells #[.bool (dneg u2), .slice A3 (digs (dm u2)).length c3, .int .i64 (de u2)] 24)).trans b4).trans b5).drew).trans b6).trans b7).trans b8)) (by omega) (by omega) (r := na) HNA.out).mono ?_); rintro e w9 ⟨rfl, b9⟩
  try go_wp2_with fail
  refine hK.out _ _ (Bel.trans hHeld b9) (fun hHeld => ?_)
  clear hK K
  try simp only [Act.put, List.setIfInBounds_toArray, List.set_cons_zero, List.set_cons_succ]
  refine r_take (i := 20) (v := ?_) rfl (by kernel_rfl) (by kernel_rfl) (by kernel_rfl) (fun _ _ _ h => h) (by kernel_rfl) hHeld ?_ ?_
  rotate_left
  · (intro w hSw; go_simp; try (with_reducible rfl))
  try simp only [Act.put, List.setIfInBounds_toArray, List.set_cons_zero, List.set_cons_succ]
  refine r_take (i := 21) (v := ?_) rfl (by kernel_rfl) (by kernel_rfl) (by kernel_rfl) (fun _ _ _ h => h) (by kernel_rfl) hHeld ?_ ?_
  rotate_left
  · (intro w hSw; go_simp; try (with_reducible rfl))
  try simp only [Act.put, List.setIfInBounds_toArray, List.set_cons_zero, List.set_cons_succ]
  refine r_take (i := 22) (v := ?_) rfl (by kernel_rfl) (by kernel_rfl) (by kernel_rfl) (fun _ _ _ h => h) (by kernel_rfl) hHeld ?_ ?_
  rotate_left
  · (intro w hSw; go_simp; try (with_reducible rfl))
  try simp only [Act.put, List.setIfInBounds_toArray, List.set_cons_zero, List.set_cons_succ]
  refine r_take (i := 23) (v := ?_) rfl (by kernel_rfl) (by kernel_rfl) (by kernel_rfl) (fun _ _ _ h => h) (by kernel_rfl) hHeld ?_ ?_
  rotate_left
  · (intro w hSw; go_simp; try (with_reducible rfl))
  try simp only [Act.put, List.setIfInBounds_toArray, List.set_cons_zero, List.set_cons_succ]
  refine wpAnyH_done (by kernel_rfl) ?_ _
  all_goals
    have HE := Ho.mk (g0.trans (((((((((((((Bel.refl _).trans b1).trans b2).alloc (.cells #[.bool (dneg u1), .slice A2 (digs (dm u1)).length c2, .int .i64 (de u1)] 24)).trans b3).alloc (.cells #[.bool (dneg u2), .slice A3 (digs (dm u2)).length c3, .int .i64 (de u2)] 24)).trans b4).trans b5).drew).trans b6).trans b7).trans b8).trans b9))
    go_wp2
    go_ret
    exact ⟨rfl, HE.out⟩
set_option maxRecDepth 100000 in
set_option maxHeartbeats 8000000 in
theorem order_no2_le {A0 : Option Addr} {c0 : Nat} {v0 : Int} {A1 : Option Addr} {c1 : Nat} {v1 : Int} {f g : Nat} (w : World) (T : Tab w) (p0 : Dv w A0 c0 v0 3000 3480) (p1 : Dv w A1 c1 v1 3000 3480) (hf : f < 2 * sgnW) (hg : g < 2 * sgnW) (h1 : frung f < infR) (h2 : ¬ frung g < infR) (ga : H1.goodB (dneg v0) (digs (dm v0)) (de v0) = true) (gb : H1.goodB (dneg v1) (digs (dm v1)) (de v1) = true) (h4 : v0 ≤ v1) :
    Calls Tryd.prog 12 #[.agg #[.bool (dneg v0), .slice A0 (digs (dm v0)).length c0, .int .i64 (de v0)], .agg #[.bool (dneg v1), .slice A1 (digs (dm v1)).length c1, .int .i64 (de v1)], .float .f64 f, .float .f64 g] w (Tells w (.bool true)) := by
  have TT := Ho.mk T
  have HO1 := Ho.mk (fun (W : World) (gw : Bel w W) => ofD (b := f) hf W (T.bel gw) (v := fv f) (ok := true) (by first | exact fin_of h1 | exact inf_of h1) (by first | exact (decide_eq_true h1).symm | exact (decide_eq_false h1).symm))
  have HO2 := Ho.mk (fun (W : World) (gw : Bel w W) => ofD (b := g) hg W (T.bel gw) (v := 0) (ok := false) (inf_of h2) (decide_eq_false h2).symm)
  obtain ⟨u2, hu2⟩ : ∃ u : Int, 0 = u := ⟨_, rfl⟩
  rw [hu2] at HO2
  clear hu2
  obtain ⟨u1, hu1⟩ : ∃ u : Int, fv f = u := ⟨_, rfl⟩
  rw [hu1] at HO1
  clear hu1
  have HGA := Ho.mk (fun (W : World) (gw : Bel w W) => goodT (dneg v0) A0 c0 (digs (dm v0)) (de v0) W (p0.rd.bel gw) ga)
  have HGB := Ho.mk (fun (W : World) (gw : Bel w W) => goodT (dneg v1) A1 c1 (digs (dm v1)) (de v1) W (p1.rd.bel gw) gb)
  obtain ⟨rd, hrd⟩ : ∃ r, cmpI v0 v1 = r := ⟨_, rfl⟩
  have hrd0 : rd ≤ 0 := by rw [← hrd]; unfold cmpI; split <;> (try split) <;> omega
  have d1 : decide (0 < rd) = false := decide_eq_false (by omega)
  have HRD := Ho.mk hrd
  have cle := near_le h4
  clear hrd
  have cng := near_neg v0
  obtain ⟨na, hna⟩ : ∃ n, nw v0 = n := ⟨_, rfl⟩
  obtain ⟨nb, hnb⟩ : ∃ n, nw v1 = n := ⟨_, rfl⟩
  obtain ⟨nc, hnc⟩ : ∃ n, nw (-v0) = n := ⟨_, rfl⟩
  rw [hna, hnc] at cng
  rw [hna, hnb] at cle
  have hng := fun (W : World) => G9.run_neg na W
  generalize Op.negFloat .f64 na = nd at *
  have HNA := Ho.mk hna
  have HNB := Ho.mk hnb
  have HNC := Ho.mk hnc
  clear hna hnb hnc
  clear T hf hg ga gb h1 h2 h4
  go_enter Tryd.func12, Tryd.ntmps12
  go_wp2_with fail
  have KB0 := Ho.mk ((Blk.new w [.bool (dneg v0), .slice A0 (digs (dm v0)).length c0, .int .i64 (de v0)] 24).old (.cells #[.bool (dneg v1), .slice A1 (digs (dm v1)).length c1, .int .i64 (de v1)] 24))
  have KB1 := Ho.mk (Blk.new (w.alloc (.cells #[.bool (dneg v0), .slice A0 (digs (dm v0)).length c0, .int .i64 (de v0)] 24)) [.bool (dneg v1), .slice A1 (digs (dm v1)).length c1, .int .i64 (de v1)] 24)
  have g0 := ((Bel.refl w).alloc (.cells #[.bool (dneg v0), .slice A0 (digs (dm v0)).length c0, .int .i64 (de v0)] 24)).alloc (.cells #[.bool (dneg v1), .slice A1 (digs (dm v1)).length c1, .int .i64 (de v1)] 24)
  rw [World.size_alloc] at KB1
  have hZ : ((w.alloc (.cells #[.bool (dneg v0), .slice A0 (digs (dm v0)).length c0, .int .i64 (de v0)] 24)).alloc (.cells #[.bool (dneg v1), .slice A1 (digs (dm v1)).length c1, .int .i64 (de v1)] 24)) = ((w.alloc (.cells #[.bool (dneg v0), .slice A0 (digs (dm v0)).length c0, .int .i64 (de v0)] 24)).alloc (.cells #[.bool (dneg v1), .slice A1 (digs (dm v1)).length c1, .int .i64 (de v1)] 24)) := rfl
  generalize ((w.alloc (.cells #[.bool (dneg v0), .slice A0 (digs (dm v0)).length c0, .int .i64 (de v0)] 24)).alloc (.cells #[.bool (dneg v1), .slice A1 (digs (dm v1)).length c1, .int .i64 (de v1)] 24)) = w0 at *
  clear hZ
  (with_reducible refine (headT _ (TT.out.bel (g0.trans (Bel.refl _)))).mono ?_); rintro e w1 ⟨rfl, b1⟩
  go_wp2_with fail
  (with_reducible refine (HO1.out _ (g0.trans ((Bel.refl _).trans b1))).mono ?_); rintro e w2 ⟨A2, c2, rfl, n2, b2⟩
  have KB10 := Ho.mk (Blk.new w2 [.bool (dneg u1), .slice A2 (digs (dm u1)).length c2, .int .i64 (de u1)] 24)
  go_wp2_with fail
  (with_reducible refine (HO2.out _ (g0.trans ((((Bel.refl _).trans b1).trans b2).alloc (.cells #[.bool (dneg u1), .slice A2 (digs (dm u1)).length c2, .int .i64 (de u1)] 24)))).mono ?_); rintro e w3 ⟨A3, c3, rfl, n3, b3⟩
  have KB12 := Ho.mk (Blk.new w3 [.bool (dneg u2), .slice A3 (digs (dm u2)).length c3, .int .i64 (de u2)] 24)
  have KB4_3x := Ho.mk ((KB0.out.bel ((((((Bel.refl _).trans b1).trans b2).alloc (.cells #[.bool (dneg u1), .slice A2 (digs (dm u1)).length c2, .int .i64 (de u1)] 24)).trans b3).alloc (.cells #[.bool (dneg u2), .slice A3 (digs (dm u2)).length c3, .int .i64 (de u2)] 24))))
  have yB4_3x_0 := KB4_3x.out.cell (i := 0) rfl
  have yB4_3x_1 := KB4_3x.out.cell (i := 1) rfl
  have yB4_3x_2 := KB4_3x.out.cell (i := 2) rfl
  go_wp2_with fail
  (with_reducible refine ((HGA.out _ (g0.trans ((((((Bel.refl _).trans b1).trans b2).alloc (.cells #[.bool (dneg u1), .slice A2 (digs (dm u1)).length c2, .int .i64 (de u1)] 24)).trans b3).alloc (.cells #[.bool (dneg u2), .slice A3 (digs (dm u2)).length c3, .int .i64 (de u2)] 24))))).mono ?_); rintro e w4 ⟨rfl, b4⟩
  clear yB4_3x_0 yB4_3x_1 yB4_3x_2
  have KB5_4 := Ho.mk ((KB1.out.bel (((((((Bel.refl _).trans b1).trans b2).alloc (.cells #[.bool (dneg u1), .slice A2 (digs (dm u1)).length c2, .int .i64 (de u1)] 24)).trans b3).alloc (.cells #[.bool (dneg u2), .slice A3 (digs (dm u2)).length c3, .int .i64 (de u2)] 24)).trans b4)))
  have yB5_4_0 := KB5_4.out.cell (i := 0) rfl
  have yB5_4_1 := KB5_4.out.cell (i := 1) rfl
  have yB5_4_2 := KB5_4.out.cell (i := 2) rfl
  go_wp2_with fail
  (with_reducible refine ((HGB.out _ (g0.trans (((((((Bel.refl _).trans b1).trans b2).alloc (.cells #[.bool (dneg u1), .slice A2 (digs (dm u1)).length c2, .int .i64 (de u1)] 24)).trans b3).alloc (.cells #[.bool (dneg u2), .slice A3 (digs (dm u2)).length c3, .int .i64 (de u2)] 24)).trans b4)))).mono ?_); rintro e w5 ⟨rfl, b5⟩
  clear yB5_4_0 yB5_4_1 yB5_4_2
  go_wp2_with fail
  have KB4_r8 := Ho.mk ((KB4_3x.out.bel (((Bel.refl _).trans b4).trans b5)))
  have yB4_r8_0 := KB4_r8.out.cell (i := 0) rfl
  have yB4_r8_1 := KB4_r8.out.cell (i := 1) rfl
  have yB4_r8_2 := KB4_r8.out.cell (i := 2) rfl
  have KB5_r8 := Ho.mk ((KB5_4.out.bel ((Bel.refl _).trans b5)))
  have yB5_r8_0 := KB5_r8.out.cell (i := 0) rfl
  have yB5_r8_1 := KB5_r8.out.cell (i := 1) rfl
  have yB5_r8_2 := KB5_r8.out.cell (i := 2) rfl
  refine wp_region_held_drew (S := fun w' => Bel w5 w') (by kernel_rfl) (Bel.refl _).drew (fun hHeld => ?_)
  (try dsimp only at hHeld)
  refine r_take (i := 0) (v := ?_) rfl (by kernel_rfl) (by kernel_rfl) (by kernel_rfl) (fun _ _ _ h => h) (by kernel_rfl) hHeld ?_ ?_
  rotate_left
  · (intro w hSw; go_simp; try (with_reducible rfl))
  try simp only [Act.put, List.setIfInBounds_toArray, List.set_cons_zero, List.set_cons_succ]
  refine r_take (i := 1) (v := ?_) rfl (by kernel_rfl) (by kernel_rfl) (by kernel_rfl) (fun _ _ _ h => h) (by kernel_rfl) hHeld ?_ ?_
  rotate_left
  · (intro w hSw; go_simp; try (with_reducible rfl))
  try simp only [Act.put, List.setIfInBounds_toArray, List.set_cons_zero, List.set_cons_succ]
  refine r_take (i := 2) (v := ?_) rfl (by kernel_rfl) (by kernel_rfl) (by kernel_rfl) (fun _ _ _ h => h) (by kernel_rfl) hHeld ?_ ?_
  rotate_left
  · (intro w hSw; have z0 := Bel.cell hSw yB4_r8_0; have z1 := Bel.cell hSw yB4_r8_1; have z2 := Bel.cell hSw yB4_r8_2; go_simp; try (with_reducible rfl))
  try simp only [Act.put, List.setIfInBounds_toArray, List.set_cons_zero, List.set_cons_succ]
  refine r_take (i := 3) (v := ?_) rfl (by kernel_rfl) (by kernel_rfl) (by kernel_rfl) (fun _ _ _ h => h) (by kernel_rfl) hHeld ?_ ?_
  rotate_left
  · (intro w hSw; have z0 := Bel.cell hSw yB5_r8_0; have z1 := Bel.cell hSw yB5_r8_1; have z2 := Bel.cell hSw yB5_r8_2; go_simp; try (with_reducible rfl))
  try simp only [Act.put, List.setIfInBounds_toArray, List.set_cons_zero, List.set_cons_succ]
  refine r_call (i := 4) (by kernel_rfl) rfl (by kernel_rfl) (fun K hK => ?_)
  go_simp
  go_at_call 25
  (with_reducible refine (F1.rCmp ((p0.bel g0).bel (((((((((Bel.refl _).trans b1).trans b2).alloc (.cells #[.bool (dneg u1), .slice A2 (digs (dm u1)).length c2, .int .i64 (de u1)] 24)).trans b3).alloc (.cells #[.bool (dneg u2), .slice A3 (digs (dm u2)).length c3, .int .i64 (de u2)] 24)).trans b4).trans b5).drew)) ((p1.bel g0).bel (((((((((Bel.refl _).trans b1).trans b2).alloc (.cells #[.bool (dneg u1), .slice A2 (digs (dm u1)).length c2, .int .i64 (de u1)] 24)).trans b3).alloc (.cells #[.bool (dneg u2), .slice A3 (digs (dm u2)).length c3, .int .i64 (de u2)] 24)).trans b4).trans b5).drew)) (by omega) (by omega) (r := rd) HRD.out).mono ?_); rintro e w6 ⟨rfl, b6⟩
  try go_wp2_with fail
  refine hK.out _ _ (Bel.trans hHeld b6) (fun hHeld => ?_)
  clear hK K
  try simp only [Act.put, List.setIfInBounds_toArray, List.set_cons_zero, List.set_cons_succ]
  refine r_take (i := 5) (v := ?_) rfl (by kernel_rfl) (by kernel_rfl) (by kernel_rfl) (fun _ _ _ h => h) (by kernel_rfl) hHeld ?_ ?_
  rotate_left
  · (intro w hSw; go_simp; try (with_reducible rfl))
  try simp only [Act.put, List.setIfInBounds_toArray, List.set_cons_zero, List.set_cons_succ]
  refine r_take (i := 6) (v := ?_) rfl (by kernel_rfl) (by kernel_rfl) (by kernel_rfl) (fun _ _ _ h => h) (by kernel_rfl) hHeld ?_ ?_
  rotate_left
  · (intro w hSw; go_simp; try (with_reducible rfl))
  try simp only [Act.put, List.setIfInBounds_toArray, List.set_cons_zero, List.set_cons_succ]
  refine r_take (i := 7) (v := ?_) rfl (by kernel_rfl) (by kernel_rfl) (by kernel_rfl) (fun _ _ _ h => h) (by kernel_rfl) hHeld ?_ ?_
  rotate_left
  · (intro w hSw; have z0 := Bel.cell hSw yB4_r8_0; have z1 := Bel.cell hSw yB4_r8_1; have z2 := Bel.cell hSw yB4_r8_2; go_simp; try (with_reducible rfl))
  try simp only [Act.put, List.setIfInBounds_toArray, List.set_cons_zero, List.set_cons_succ]
  refine r_take (i := 9) (v := ?_) rfl (by kernel_rfl) (by kernel_rfl) (by kernel_rfl) (fun _ _ _ h => h) (by kernel_rfl) hHeld ?_ ?_
  rotate_left
  · (intro w hSw; have z0 := Bel.cell hSw yB5_r8_0; have z1 := Bel.cell hSw yB5_r8_1; have z2 := Bel.cell hSw yB5_r8_2; go_simp; try (with_reducible rfl))
  try simp only [Act.put, List.setIfInBounds_toArray, List.set_cons_zero, List.set_cons_succ]
  refine r_call (i := 8) (by kernel_rfl) rfl (by kernel_rfl) (fun K hK => ?_)
  go_simp
  go_at_call 47
  (with_reducible refine (nearD ((p0.bel g0).bel ((((((((((Bel.refl _).trans b1).trans b2).alloc (.cells #[.bool (dneg u1), .slice A2 (digs (dm u1)).length c2, .int .i64 (de u1)] 24)).trans b3).alloc (.cells #[.bool (dneg u2), .slice A3 (digs (dm u2)).length c3, .int .i64 (de u2)] 24)).trans b4).trans b5).drew).trans b6)) (by omega) (by omega) (r := na) HNA.out).mono ?_); rintro e w7 ⟨rfl, b7⟩
  try go_wp2_with fail
  refine hK.out _ _ (Bel.trans hHeld b7) (fun hHeld => ?_)
  clear hK K
  try simp only [Act.put, List.setIfInBounds_toArray, List.set_cons_zero, List.set_cons_succ]
  refine r_call (i := 10) (by kernel_rfl) rfl (by kernel_rfl) (fun K hK => ?_)
  go_simp
  go_at_call 47
  (with_reducible refine (nearD ((p1.bel g0).bel (((((((((((Bel.refl _).trans b1).trans b2).alloc (.cells #[.bool (dneg u1), .slice A2 (digs (dm u1)).length c2, .int .i64 (de u1)] 24)).trans b3).alloc (.cells #[.bool (dneg u2), .slice A3 (digs (dm u2)).length c3, .int .i64 (de u2)] 24)).trans b4).trans b5).drew).trans b6).trans b7)) (by omega) (by omega) (r := nb) HNB.out).mono ?_); rintro e w8 ⟨rfl, b8⟩
  try go_wp2_with fail
  refine hK.out _ _ (Bel.trans hHeld b8) (fun hHeld => ?_)
  clear hK K
  try simp only [Act.put, List.setIfInBounds_toArray, List.set_cons_zero, List.set_cons_succ]
  refine r_take (i := 11) (v := ?_) rfl (by kernel_rfl) (by kernel_rfl) (by kernel_rfl) (fun _ _ _ h => h) (by kernel_rfl) hHeld ?_ ?_
  rotate_left
  · (intro w hSw; go_simp; try (with_reducible rfl))
  try simp only [Act.put, List.setIfInBounds_toArray, List.set_cons_zero, List.set_cons_succ]
  refine r_take (i := 12) (v := ?_) rfl (by kernel_rfl) (by kernel_rfl) (by kernel_rfl) (fun _ _ _ h => h) (by kernel_rfl) hHeld ?_ ?_
  rotate_left
  · (intro w hSw; go_simp; try (with_reducible rfl))
  try simp only [Act.put, List.setIfInBounds_toArray, List.set_cons_zero, List.set_cons_succ]
  refine r_take (i := 13) (v := ?_) rfl (by kernel_rfl) (by kernel_rfl) (by kernel_rfl) (fun _ _ _ h => h) (by kernel_rfl) hHeld ?_ ?_
  rotate_left
  · (intro w hSw; go_simp; try (with_reducible rfl))
  try simp only [Act.put, List.setIfInBounds_toArray, List.set_cons_zero, List.set_cons_succ]
  refine r_take (i := 14) (v := ?_) rfl (by kernel_rfl) (by kernel_rfl) (by kernel_rfl) (fun _ _ _ h => h) (by kernel_rfl) hHeld ?_ ?_
  rotate_left
  · (intro w hSw; go_simp; try (with_reducible rfl))
  try simp only [Act.put, List.setIfInBounds_toArray, List.set_cons_zero, List.set_cons_succ]
  refine r_take (i := 15) (v := ?_) rfl (by kernel_rfl) (by kernel_rfl) (by kernel_rfl) (fun _ _ _ h => h) (by kernel_rfl) hHeld ?_ ?_
  rotate_left
  · (intro w hSw; have z0 := Bel.cell hSw yB4_r8_0; have z1 := Bel.cell hSw yB4_r8_1; have z2 := Bel.cell hSw yB4_r8_2; go_simp; try (with_reducible rfl))
  try simp only [Act.put, List.setIfInBounds_toArray, List.set_cons_zero, List.set_cons_succ]
  refine r_take (i := 18) (v := ?_) rfl (by kernel_rfl) (by kernel_rfl) (by kernel_rfl) (fun _ _ _ h => h) (by kernel_rfl) hHeld ?_ ?_
  rotate_left
  · (intro w hSw; have z0 := Bel.cell hSw yB4_r8_0; have z1 := Bel.cell hSw yB4_r8_1; have z2 := Bel.cell hSw yB4_r8_2; go_simp; try (with_reducible rfl))
  try simp only [Act.put, List.setIfInBounds_toArray, List.set_cons_zero, List.set_cons_succ]
  refine r_call (i := 16) (by kernel_rfl) rfl (by kernel_rfl) (fun K hK => ?_)
  go_simp
  go_at_call 29
  (with_reducible refine (F1.rFlip ((p0.bel g0).bel ((((((((((((Bel.refl _).trans b1).trans b2).alloc (.cells #[.bool (dneg u1), .slice A2 (digs (dm u1)).length c2, .int .i64 (de u1)] 24)).trans b3).alloc (.cells #[.bool (dneg u2), .slice A3 (digs (dm u2)).length c3, .int .i64 (de u2)] 24)).trans b4).trans b5).drew).trans b6).trans b7).trans b8))).mono ?_); rintro e w9 ⟨A9, c9, rfl, n9, b9⟩
  try go_wp2_with fail
  refine hK.out _ _ (Bel.trans hHeld b9) (fun hHeld => ?_)
  clear hK K
  try simp only [Act.put, List.setIfInBounds_toArray, List.set_cons_zero, List.set_cons_succ]
  refine r_call (i := 17) (by kernel_rfl) rfl (by kernel_rfl) (fun K hK => ?_)
  go_simp
  go_at_call 47
  (with_reducible refine (nearD n9 (by omega) (by omega) (r := nc) HNC.out).mono ?_); rintro e w10 ⟨rfl, b10⟩
  try go_wp2_with fail
  refine hK.out _ _ (Bel.trans hHeld b10) (fun hHeld => ?_)
  clear hK K
  try simp only [Act.put, List.setIfInBounds_toArray, List.set_cons_zero, List.set_cons_succ]
  refine r_call (i := 19) (by kernel_rfl) rfl (by kernel_rfl) (fun K hK => ?_)
  go_simp
  go_at_call 47
  (with_reducible refine (nearD ((p0.bel g0).bel ((((((((((((((Bel.refl _).trans b1).trans b2).alloc (.cells #[.bool (dneg u1), .slice A2 (digs (dm u1)).length c2, .int .i64 (de u1)] 24)).trans b3).alloc (.cells #[.bool (dneg u2), .slice A3 (digs (dm u2)).length c3, .int .i64 (de u2)] 24)).trans b4).trans b5).drew).trans b6).trans b7).trans b8).trans b9).trans b10)) (by omega) (by omega) (r := na) HNA.out).mono ?_); rintro e w11 ⟨rfl, b11⟩
  try go_wp2_with fail
  refine hK.out _ _ (Bel.trans hHeld b11) (fun hHeld => ?_)
  clear hK K
  try simp only [Act.put, List.setIfInBounds_toArray, List.set_cons_zero, List.set_cons_succ]
  refine r_take (i := 20) (v := ?_) rfl (by kernel_rfl) (by kernel_rfl) (by kernel_rfl) (fun _ _ _ h => h) (by kernel_rfl) hHeld ?_ ?_
  rotate_left
  · (intro w hSw; go_simp; try (with_reducible rfl))
  try simp only [Act.put, List.setIfInBounds_toArray, List.set_cons_zero, List.set_cons_succ]
  refine r_take (i := 21) (v := ?_) rfl (by kernel_rfl) (by kernel_rfl) (by kernel_rfl) (fun _ _ _ h => h) (by kernel_rfl) hHeld ?_ ?_
  rotate_left
  · (intro w hSw; go_simp; try (with_reducible rfl))
  try simp only [Act.put, List.setIfInBounds_toArray, List.set_cons_zero, List.set_cons_succ]
  refine r_take (i := 22) (v := ?_) rfl (by kernel_rfl) (by kernel_rfl) (by kernel_rfl) (fun _ _ _ h => h) (by kernel_rfl) hHeld ?_ ?_
  rotate_left
  · (intro w hSw; go_simp; try (with_reducible rfl))
  try simp only [Act.put, List.setIfInBounds_toArray, List.set_cons_zero, List.set_cons_succ]
  refine r_take (i := 23) (v := ?_) rfl (by kernel_rfl) (by kernel_rfl) (by kernel_rfl) (fun _ _ _ h => h) (by kernel_rfl) hHeld ?_ ?_
  rotate_left
  · (intro w hSw; go_simp; try (with_reducible rfl))
  try simp only [Act.put, List.setIfInBounds_toArray, List.set_cons_zero, List.set_cons_succ]
  refine wpAnyH_done (by kernel_rfl) ?_ _
  all_goals
    have HE := Ho.mk (g0.trans (((((((((((((((Bel.refl _).trans b1).trans b2).alloc (.cells #[.bool (dneg u1), .slice A2 (digs (dm u1)).length c2, .int .i64 (de u1)] 24)).trans b3).alloc (.cells #[.bool (dneg u2), .slice A3 (digs (dm u2)).length c3, .int .i64 (de u2)] 24)).trans b4).trans b5).drew).trans b6).trans b7).trans b8).trans b9).trans b10).trans b11))
    go_wp2
    go_ret
    exact ⟨rfl, HE.out⟩
set_option maxRecDepth 100000 in
set_option maxHeartbeats 8000000 in
theorem order_lt_a0 (n0 : Bool) (A0 : Option Addr) (c0 : Nat) (l0 : List Int) (e0 : Int) (n1 : Bool) (A1 : Option Addr) (c1 : Nat) (l1 : List Int) (e1 : Int) {f g : Nat} (w : World) (T : Tab w) (hr0 : Rd w A0 l0) (hr1 : Rd w A1 l1) (hf : f < 2 * sgnW) (hg : g < 2 * sgnW) (h1 : frung f < infR) (h2 : frung g < infR) (h3 : V f < V g) (ga : H1.goodB n0 l0 e0 = false) :
    Calls Tryd.prog 12 #[.agg #[.bool n0, .slice A0 l0.length c0, .int .i64 e0], .agg #[.bool n1, .slice A1 l1.length c1, .int .i64 e1], .float .f64 f, .float .f64 g] w (Tells w (.bool true)) := by
  have TT := Ho.mk T
  have HO1 := Ho.mk (fun (W : World) (gw : Bel w W) => ofD (b := f) hf W (T.bel gw) (v := fv f) (ok := true) (by first | exact fin_of h1 | exact inf_of h1) (by first | exact (decide_eq_true h1).symm | exact (decide_eq_false h1).symm))
  have HO2 := Ho.mk (fun (W : World) (gw : Bel w W) => ofD (b := g) hg W (T.bel gw) (v := fv g) (ok := true) (fin_of h2) (decide_eq_true h2).symm)
  obtain ⟨q1, q2, q3, q4⟩ := ord_lt hf hg h1 h2 h3
  have HRF := Ho.mk q3
  have HBS := Ho.mk q4
  clear q3 q4
  obtain ⟨u1, hu1⟩ : ∃ u : Int, fv f = u := ⟨_, rfl⟩
  rw [hu1] at HO1 HRF HBS
  clear hu1
  obtain ⟨u2, hu2⟩ : ∃ u : Int, fv g = u := ⟨_, rfl⟩
  rw [hu2] at HO2 HRF HBS
  clear hu2
  have HGA := Ho.mk (fun (W : World) (gw : Bel w W) => goodT n0 A0 c0 l0 e0 W (hr0.bel gw) ga)
  clear T hf hg ga h1 h2 h3
  go_enter Tryd.func12, Tryd.ntmps12
  go_wp2_with fail
  have KB0 := Ho.mk ((Blk.new w [.bool n0, .slice A0 l0.length c0, .int .i64 e0] 24).old (.cells #[.bool n1, .slice A1 l1.length c1, .int .i64 e1] 24))
  have KB1 := Ho.mk (Blk.new (w.alloc (.cells #[.bool n0, .slice A0 l0.length c0, .int .i64 e0] 24)) [.bool n1, .slice A1 l1.length c1, .int .i64 e1] 24)
  have g0 := ((Bel.refl w).alloc (.cells #[.bool n0, .slice A0 l0.length c0, .int .i64 e0] 24)).alloc (.cells #[.bool n1, .slice A1 l1.length c1, .int .i64 e1] 24)
  rw [World.size_alloc] at KB1
  have hZ : ((w.alloc (.cells #[.bool n0, .slice A0 l0.length c0, .int .i64 e0] 24)).alloc (.cells #[.bool n1, .slice A1 l1.length c1, .int .i64 e1] 24)) = ((w.alloc (.cells #[.bool n0, .slice A0 l0.length c0, .int .i64 e0] 24)).alloc (.cells #[.bool n1, .slice A1 l1.length c1, .int .i64 e1] 24)) := rfl
  generalize ((w.alloc (.cells #[.bool n0, .slice A0 l0.length c0, .int .i64 e0] 24)).alloc (.cells #[.bool n1, .slice A1 l1.length c1, .int .i64 e1] 24)) = w0 at *
  clear hZ
  (with_reducible refine (headT _ (TT.out.bel (g0.trans (Bel.refl _)))).mono ?_); rintro e w1 ⟨rfl, b1⟩
  go_wp2_with fail
  (with_reducible refine (HO1.out _ (g0.trans ((Bel.refl _).trans b1))).mono ?_); rintro e w2 ⟨A2, c2, rfl, n2, b2⟩
  have KB10 := Ho.mk (Blk.new w2 [.bool (dneg u1), .slice A2 (digs (dm u1)).length c2, .int .i64 (de u1)] 24)
  go_wp2_with fail
  (with_reducible refine (HO2.out _ (g0.trans ((((Bel.refl _).trans b1).trans b2).alloc (.cells #[.bool (dneg u1), .slice A2 (digs (dm u1)).length c2, .int .i64 (de u1)] 24)))).mono ?_); rintro e w3 ⟨A3, c3, rfl, n3, b3⟩
  have KB12 := Ho.mk (Blk.new w3 [.bool (dneg u2), .slice A3 (digs (dm u2)).length c3, .int .i64 (de u2)] 24)
  have KB10_3x := Ho.mk ((KB10.out.bel (((Bel.refl _).trans b3).alloc (.cells #[.bool (dneg u2), .slice A3 (digs (dm u2)).length c3, .int .i64 (de u2)] 24))))
  have yB10_3x_0 := KB10_3x.out.cell (i := 0) rfl
  have yB10_3x_1 := KB10_3x.out.cell (i := 1) rfl
  have yB10_3x_2 := KB10_3x.out.cell (i := 2) rfl
  have KB12_3x := Ho.mk (KB12.out)
  have yB12_3x_0 := KB12_3x.out.cell (i := 0) rfl
  have yB12_3x_1 := KB12_3x.out.cell (i := 1) rfl
  have yB12_3x_2 := KB12_3x.out.cell (i := 2) rfl
  go_wp2_with fail
  (with_reducible refine (F1.rCmp (n2.bel ((((Bel.refl _).alloc (.cells #[.bool (dneg u1), .slice A2 (digs (dm u1)).length c2, .int .i64 (de u1)] 24)).trans b3).alloc (.cells #[.bool (dneg u2), .slice A3 (digs (dm u2)).length c3, .int .i64 (de u2)] 24))) (n3.bel ((Bel.refl _).alloc (.cells #[.bool (dneg u2), .slice A3 (digs (dm u2)).length c3, .int .i64 (de u2)] 24))) (by omega) (by omega) (r := -1) HRF.out).mono ?_); rintro e w4 ⟨rfl, b4⟩
  clear yB10_3x_0 yB10_3x_1 yB10_3x_2 yB12_3x_0 yB12_3x_1 yB12_3x_2
  have KB10_4 := Ho.mk ((KB10_3x.out.bel ((Bel.refl _).trans b4)))
  have yB10_4_0 := KB10_4.out.cell (i := 0) rfl
  have yB10_4_1 := KB10_4.out.cell (i := 1) rfl
  have yB10_4_2 := KB10_4.out.cell (i := 2) rfl
  have KB12_4 := Ho.mk ((KB12_3x.out.bel ((Bel.refl _).trans b4)))
  have yB12_4_0 := KB12_4.out.cell (i := 0) rfl
  have yB12_4_1 := KB12_4.out.cell (i := 1) rfl
  have yB12_4_2 := KB12_4.out.cell (i := 2) rfl
  go_wp2_with fail
  (with_reducible refine (F1.sameB (n2.bel (((((Bel.refl _).alloc (.cells #[.bool (dneg u1), .slice A2 (digs (dm u1)).length c2, .int .i64 (de u1)] 24)).trans b3).alloc (.cells #[.bool (dneg u2), .slice A3 (digs (dm u2)).length c3, .int .i64 (de u2)] 24)).trans b4)) (n3.bel (((Bel.refl _).alloc (.cells #[.bool (dneg u2), .slice A3 (digs (dm u2)).length c3, .int .i64 (de u2)] 24)).trans b4)) (b := false) HBS.out).mono ?_); rintro e w5 ⟨rfl, b5⟩
  clear yB10_4_0 yB10_4_1 yB10_4_2 yB12_4_0 yB12_4_1 yB12_4_2
  have KB4_5 := Ho.mk ((KB0.out.bel ((((((((Bel.refl _).trans b1).trans b2).alloc (.cells #[.bool (dneg u1), .slice A2 (digs (dm u1)).length c2, .int .i64 (de u1)] 24)).trans b3).alloc (.cells #[.bool (dneg u2), .slice A3 (digs (dm u2)).length c3, .int .i64 (de u2)] 24)).trans b4).trans b5)))
  have yB4_5_0 := KB4_5.out.cell (i := 0) rfl
  have yB4_5_1 := KB4_5.out.cell (i := 1) rfl
  have yB4_5_2 := KB4_5.out.cell (i := 2) rfl
  go_wp2_with fail
  (with_reducible refine ((HGA.out _ (g0.trans ((((((((Bel.refl _).trans b1).trans b2).alloc (.cells #[.bool (dneg u1), .slice A2 (digs (dm u1)).length c2, .int .i64 (de u1)] 24)).trans b3).alloc (.cells #[.bool (dneg u2), .slice A3 (digs (dm u2)).length c3, .int .i64 (de u2)] 24)).trans b4).trans b5)))).mono ?_); rintro e w6 ⟨rfl, b6⟩
  clear yB4_5_0 yB4_5_1 yB4_5_2
  all_goals
    have HE := Ho.mk (g0.trans (((((((((Bel.refl _).trans b1).trans b2).alloc (.cells #[.bool (dneg u1), .slice A2 (digs (dm u1)).length c2, .int .i64 (de u1)] 24)).trans b3).alloc (.cells #[.bool (dneg u2), .slice A3 (digs (dm u2)).length c3, .int .i64 (de u2)] 24)).trans b4).trans b5).trans b6))
    go_wp2
    go_ret
    exact ⟨rfl, HE.out⟩
set_option maxRecDepth 100000 in
set_option maxHeartbeats 8000000 in
theorem order_lt_b0 (n0 : Bool) (A0 : Option Addr) (c0 : Nat) (l0 : List Int) (e0 : Int) (n1 : Bool) (A1 : Option Addr) (c1 : Nat) (l1 : List Int) (e1 : Int) {f g : Nat} (w : World) (T : Tab w) (hr0 : Rd w A0 l0) (hr1 : Rd w A1 l1) (hf : f < 2 * sgnW) (hg : g < 2 * sgnW) (h1 : frung f < infR) (h2 : frung g < infR) (h3 : V f < V g) (ga : H1.goodB n0 l0 e0 = true) (gb : H1.goodB n1 l1 e1 = false) :
    Calls Tryd.prog 12 #[.agg #[.bool n0, .slice A0 l0.length c0, .int .i64 e0], .agg #[.bool n1, .slice A1 l1.length c1, .int .i64 e1], .float .f64 f, .float .f64 g] w (Tells w (.bool true)) := by
  have TT := Ho.mk T
  have HO1 := Ho.mk (fun (W : World) (gw : Bel w W) => ofD (b := f) hf W (T.bel gw) (v := fv f) (ok := true) (by first | exact fin_of h1 | exact inf_of h1) (by first | exact (decide_eq_true h1).symm | exact (decide_eq_false h1).symm))
  have HO2 := Ho.mk (fun (W : World) (gw : Bel w W) => ofD (b := g) hg W (T.bel gw) (v := fv g) (ok := true) (fin_of h2) (decide_eq_true h2).symm)
  obtain ⟨q1, q2, q3, q4⟩ := ord_lt hf hg h1 h2 h3
  have HRF := Ho.mk q3
  have HBS := Ho.mk q4
  clear q3 q4
  obtain ⟨u1, hu1⟩ : ∃ u : Int, fv f = u := ⟨_, rfl⟩
  rw [hu1] at HO1 HRF HBS
  clear hu1
  obtain ⟨u2, hu2⟩ : ∃ u : Int, fv g = u := ⟨_, rfl⟩
  rw [hu2] at HO2 HRF HBS
  clear hu2
  have HGA := Ho.mk (fun (W : World) (gw : Bel w W) => goodT n0 A0 c0 l0 e0 W (hr0.bel gw) ga)
  have HGB := Ho.mk (fun (W : World) (gw : Bel w W) => goodT n1 A1 c1 l1 e1 W (hr1.bel gw) gb)
  clear T hf hg ga gb h1 h2 h3
  go_enter Tryd.func12, Tryd.ntmps12
  go_wp2_with fail
  have KB0 := Ho.mk ((Blk.new w [.bool n0, .slice A0 l0.length c0, .int .i64 e0] 24).old (.cells #[.bool n1, .slice A1 l1.length c1, .int .i64 e1] 24))
  have KB1 := Ho.mk (Blk.new (w.alloc (.cells #[.bool n0, .slice A0 l0.length c0, .int .i64 e0] 24)) [.bool n1, .slice A1 l1.length c1, .int .i64 e1] 24)
  have g0 := ((Bel.refl w).alloc (.cells #[.bool n0, .slice A0 l0.length c0, .int .i64 e0] 24)).alloc (.cells #[.bool n1, .slice A1 l1.length c1, .int .i64 e1] 24)
  rw [World.size_alloc] at KB1
  have hZ : ((w.alloc (.cells #[.bool n0, .slice A0 l0.length c0, .int .i64 e0] 24)).alloc (.cells #[.bool n1, .slice A1 l1.length c1, .int .i64 e1] 24)) = ((w.alloc (.cells #[.bool n0, .slice A0 l0.length c0, .int .i64 e0] 24)).alloc (.cells #[.bool n1, .slice A1 l1.length c1, .int .i64 e1] 24)) := rfl
  generalize ((w.alloc (.cells #[.bool n0, .slice A0 l0.length c0, .int .i64 e0] 24)).alloc (.cells #[.bool n1, .slice A1 l1.length c1, .int .i64 e1] 24)) = w0 at *
  clear hZ
  (with_reducible refine (headT _ (TT.out.bel (g0.trans (Bel.refl _)))).mono ?_); rintro e w1 ⟨rfl, b1⟩
  go_wp2_with fail
  (with_reducible refine (HO1.out _ (g0.trans ((Bel.refl _).trans b1))).mono ?_); rintro e w2 ⟨A2, c2, rfl, n2, b2⟩
  have KB10 := Ho.mk (Blk.new w2 [.bool (dneg u1), .slice A2 (digs (dm u1)).length c2, .int .i64 (de u1)] 24)
  go_wp2_with fail
  (with_reducible refine (HO2.out _ (g0.trans ((((Bel.refl _).trans b1).trans b2).alloc (.cells #[.bool (dneg u1), .slice A2 (digs (dm u1)).length c2, .int .i64 (de u1)] 24)))).mono ?_); rintro e w3 ⟨A3, c3, rfl, n3, b3⟩
  have KB12 := Ho.mk (Blk.new w3 [.bool (dneg u2), .slice A3 (digs (dm u2)).length c3, .int .i64 (de u2)] 24)
  have KB10_3x := Ho.mk ((KB10.out.bel (((Bel.refl _).trans b3).alloc (.cells #[.bool (dneg u2), .slice A3 (digs (dm u2)).length c3, .int .i64 (de u2)] 24))))
  have yB10_3x_0 := KB10_3x.out.cell (i := 0) rfl
  have yB10_3x_1 := KB10_3x.out.cell (i := 1) rfl
  have yB10_3x_2 := KB10_3x.out.cell (i := 2) rfl
  have KB12_3x := Ho.mk (KB12.out)
  have yB12_3x_0 := KB12_3x.out.cell (i := 0) rfl
  have yB12_3x_1 := KB12_3x.out.cell (i := 1) rfl
  have yB12_3x_2 := KB12_3x.out.cell (i := 2) rfl
  go_wp2_with fail
  (with_reducible refine (F1.rCmp (n2.bel ((((Bel.refl _).alloc (.cells #[.bool (dneg u1), .slice A2 (digs (dm u1)).length c2, .int .i64 (de u1)] 24)).trans b3).alloc (.cells #[.bool (dneg u2), .slice A3 (digs (dm u2)).length c3, .int .i64 (de u2)] 24))) (n3.bel ((Bel.refl _).alloc (.cells #[.bool (dneg u2), .slice A3 (digs (dm u2)).length c3, .int .i64 (de u2)] 24))) (by omega) (by omega) (r := -1) HRF.out).mono ?_); rintro e w4 ⟨rfl, b4⟩
  clear yB10_3x_0 yB10_3x_1 yB10_3x_2 yB12_3x_0 yB12_3x_1 yB12_3x_2
  have KB10_4 := Ho.mk ((KB10_3x.out.bel ((Bel.refl _).trans b4)))
  have yB10_4_0 := KB10_4.out.cell (i := 0) rfl
  have yB10_4_1 := KB10_4.out.cell (i := 1) rfl
  have yB10_4_2 := KB10_4.out.cell (i := 2) rfl
  have KB12_4 := Ho.mk ((KB12_3x.out.bel ((Bel.refl _).trans b4)))
  have yB12_4_0 := KB12_4.out.cell (i := 0) rfl
  have yB12_4_1 := KB12_4.out.cell (i := 1) rfl
  have yB12_4_2 := KB12_4.out.cell (i := 2) rfl
  go_wp2_with fail
  (with_reducible refine (F1.sameB (n2.bel (((((Bel.refl _).alloc (.cells #[.bool (dneg u1), .slice A2 (digs (dm u1)).length c2, .int .i64 (de u1)] 24)).trans b3).alloc (.cells #[.bool (dneg u2), .slice A3 (digs (dm u2)).length c3, .int .i64 (de u2)] 24)).trans b4)) (n3.bel (((Bel.refl _).alloc (.cells #[.bool (dneg u2), .slice A3 (digs (dm u2)).length c3, .int .i64 (de u2)] 24)).trans b4)) (b := false) HBS.out).mono ?_); rintro e w5 ⟨rfl, b5⟩
  clear yB10_4_0 yB10_4_1 yB10_4_2 yB12_4_0 yB12_4_1 yB12_4_2
  have KB4_5 := Ho.mk ((KB0.out.bel ((((((((Bel.refl _).trans b1).trans b2).alloc (.cells #[.bool (dneg u1), .slice A2 (digs (dm u1)).length c2, .int .i64 (de u1)] 24)).trans b3).alloc (.cells #[.bool (dneg u2), .slice A3 (digs (dm u2)).length c3, .int .i64 (de u2)] 24)).trans b4).trans b5)))
  have yB4_5_0 := KB4_5.out.cell (i := 0) rfl
  have yB4_5_1 := KB4_5.out.cell (i := 1) rfl
  have yB4_5_2 := KB4_5.out.cell (i := 2) rfl
  go_wp2_with fail
  (with_reducible refine ((HGA.out _ (g0.trans ((((((((Bel.refl _).trans b1).trans b2).alloc (.cells #[.bool (dneg u1), .slice A2 (digs (dm u1)).length c2, .int .i64 (de u1)] 24)).trans b3).alloc (.cells #[.bool (dneg u2), .slice A3 (digs (dm u2)).length c3, .int .i64 (de u2)] 24)).trans b4).trans b5)))).mono ?_); rintro e w6 ⟨rfl, b6⟩
  clear yB4_5_0 yB4_5_1 yB4_5_2
  have KB5_6 := Ho.mk ((KB1.out.bel (((((((((Bel.refl _).trans b1).trans b2).alloc (.cells #[.bool (dneg u1), .slice A2 (digs (dm u1)).length c2, .int .i64 (de u1)] 24)).trans b3).alloc (.cells #[.bool (dneg u2), .slice A3 (digs (dm u2)).length c3, .int .i64 (de u2)] 24)).trans b4).trans b5).trans b6)))
  have yB5_6_0 := KB5_6.out.cell (i := 0) rfl
  have yB5_6_1 := KB5_6.out.cell (i := 1) rfl
  have yB5_6_2 := KB5_6.out.cell (i := 2) rfl
  go_wp2_with fail
  (with_reducible refine ((HGB.out _ (g0.trans (((((((((Bel.refl _).trans b1).trans b2).alloc (.cells #[.bool (dneg u1), .slice A2 (digs (dm u1)).length c2, .int .i64 (de u1)] 24)).trans b3).alloc (.cells #[.bool (dneg u2), .slice A3 (digs (dm u2)).length c3, .int .i64 (de u2)] 24)).trans b4).trans b5).trans b6)))).mono ?_); rintro e w7 ⟨rfl, b7⟩
  clear yB5_6_0 yB5_6_1 yB5_6_2
  all_goals
    have HE := Ho.mk (g0.trans ((((((((((Bel.refl _).trans b1).trans b2).alloc (.cells #[.bool (dneg u1), .slice A2 (digs (dm u1)).length c2, .int .i64 (de u1)] 24)).trans b3).alloc (.cells #[.bool (dneg u2), .slice A3 (digs (dm u2)).length c3, .int .i64 (de u2)] 24)).trans b4).trans b5).trans b6).trans b7))
    go_wp2
    go_ret
    exact ⟨rfl, HE.out⟩
set_option maxRecDepth 100000 in
set_option maxHeartbeats 8000000 in
theorem order_lt_gr {A0 : Option Addr} {c0 : Nat} {v0 : Int} {A1 : Option Addr} {c1 : Nat} {v1 : Int} {f g : Nat} (w : World) (T : Tab w) (p0 : Dv w A0 c0 v0 3000 3480) (p1 : Dv w A1 c1 v1 3000 3480) (hf : f < 2 * sgnW) (hg : g < 2 * sgnW) (h1 : frung f < infR) (h2 : frung g < infR) (h3 : V f < V g) (ga : H1.goodB (dneg v0) (digs (dm v0)) (de v0) = true) (gb : H1.goodB (dneg v1) (digs (dm v1)) (de v1) = true) (h4 : v1 < v0) :
    Calls Tryd.prog 12 #[.agg #[.bool (dneg v0), .slice A0 (digs (dm v0)).length c0, .int .i64 (de v0)], .agg #[.bool (dneg v1), .slice A1 (digs (dm v1)).length c1, .int .i64 (de v1)], .float .f64 f, .float .f64 g] w (Tells w (.bool true)) := by
  have TT := Ho.mk T
  have HO1 := Ho.mk (fun (W : World) (gw : Bel w W) => ofD (b := f) hf W (T.bel gw) (v := fv f) (ok := true) (by first | exact fin_of h1 | exact inf_of h1) (by first | exact (decide_eq_true h1).symm | exact (decide_eq_false h1).symm))
  have HO2 := Ho.mk (fun (W : World) (gw : Bel w W) => ofD (b := g) hg W (T.bel gw) (v := fv g) (ok := true) (fin_of h2) (decide_eq_true h2).symm)
  obtain ⟨q1, q2, q3, q4⟩ := ord_lt hf hg h1 h2 h3
  have HRF := Ho.mk q3
  have HBS := Ho.mk q4
  clear q3 q4
  obtain ⟨u1, hu1⟩ : ∃ u : Int, fv f = u := ⟨_, rfl⟩
  rw [hu1] at HO1 HRF HBS
  clear hu1
  obtain ⟨u2, hu2⟩ : ∃ u : Int, fv g = u := ⟨_, rfl⟩
  rw [hu2] at HO2 HRF HBS
  clear hu2
  have HGA := Ho.mk (fun (W : World) (gw : Bel w W) => goodT (dneg v0) A0 c0 (digs (dm v0)) (de v0) W (p0.rd.bel gw) ga)
  have HGB := Ho.mk (fun (W : World) (gw : Bel w W) => goodT (dneg v1) A1 c1 (digs (dm v1)) (de v1) W (p1.rd.bel gw) gb)
  obtain ⟨rd, hrd⟩ : ∃ r, cmpI v0 v1 = r := ⟨_, rfl⟩
  have d1 : decide (0 < rd) = true := decide_eq_true (by rw [← hrd, cmpI_gt h4]; decide)
  have HRD := Ho.mk hrd
  clear hrd
  have cng := near_neg v0
  obtain ⟨na, hna⟩ : ∃ n, nw v0 = n := ⟨_, rfl⟩
  obtain ⟨nb, hnb⟩ : ∃ n, nw v1 = n := ⟨_, rfl⟩
  obtain ⟨nc, hnc⟩ : ∃ n, nw (-v0) = n := ⟨_, rfl⟩
  rw [hna, hnc] at cng
  have hng := fun (W : World) => G9.run_neg na W
  generalize Op.negFloat .f64 na = nd at *
  have HNA := Ho.mk hna
  have HNB := Ho.mk hnb
  have HNC := Ho.mk hnc
  clear hna hnb hnc
  clear T hf hg ga gb h1 h2 h3 h4
  go_enter Tryd.func12, Tryd.ntmps12
  go_wp2_with fail
  have KB0 := Ho.mk ((Blk.new w [.bool (dneg v0), .slice A0 (digs (dm v0)).length c0, .int .i64 (de v0)] 24).old (.cells #[.bool (dneg v1), .slice A1 (digs (dm v1)).length c1, .int .i64 (de v1)] 24))
  have KB1 := Ho.mk (Blk.new (w.alloc (.cells #[.bool (dneg v0), .slice A0 (digs (dm v0)).length c0, .int .i64 (de v0)] 24)) [.bool (dneg v1), .slice A1 (digs (dm v1)).length c1, .int .i64 (de v1)] 24)
  have g0 := ((Bel.refl w).alloc (.cells #[.bool (dneg v0), .slice A0 (digs (dm v0)).length c0, .int .i64 (de v0)] 24)).alloc (.cells #[.bool (dneg v1), .slice A1 (digs (dm v1)).length c1, .int .i64 (de v1)] 24)
  rw [World.size_alloc] at KB1
  have hZ : ((w.alloc (.cells #[.bool (dneg v0), .slice A0 (digs (dm v0)).length c0, .int .i64 (de v0)] 24)).alloc (.cells #[.bool (dneg v1), .slice A1 (digs (dm v1)).length c1, .int .i64 (de v1)] 24)) = ((w.alloc (.cells #[.bool (dneg v0), .slice A0 (digs (dm v0)).length c0, .int .i64 (de v0)] 24)).alloc (.cells #[.bool (dneg v1), .slice A1 (digs (dm v1)).length c1, .int .i64 (de v1)] 24)) := rfl
  generalize ((w.alloc (.cells #[.bool (dneg v0), .slice A0 (digs (dm v0)).length c0, .int .i64 (de v0)] 24)).alloc (.cells #[.bool (dneg v1), .slice A1 (digs (dm v1)).length c1, .int .i64 (de v1)] 24)) = w0 at *
  clear hZ
  (with_reducible refine (headT _ (TT.out.bel (g0.trans (Bel.refl _)))).mono ?_); rintro e w1 ⟨rfl, b1⟩
  go_wp2_with fail
  (with_reducible refine (HO1.out _ (g0.trans ((Bel.refl _).trans b1))).mono ?_); rintro e w2 ⟨A2, c2, rfl, n2, b2⟩
  have KB10 := Ho.mk (Blk.new w2 [.bool (dneg u1), .slice A2 (digs (dm u1)).length c2, .int .i64 (de u1)] 24)
  go_wp2_with fail
  (with_reducible refine (HO2.out _ (g0.trans ((((Bel.refl _).trans b1).trans b2).alloc (.cells #[.bool (dneg u1), .slice A2 (digs (dm u1)).length c2, .int .i64 (de u1)] 24)))).mono ?_); rintro e w3 ⟨A3, c3, rfl, n3, b3⟩
  have KB12 := Ho.mk (Blk.new w3 [.bool (dneg u2), .slice A3 (digs (dm u2)).length c3, .int .i64 (de u2)] 24)
  have KB10_3x := Ho.mk ((KB10.out.bel (((Bel.refl _).trans b3).alloc (.cells #[.bool (dneg u2), .slice A3 (digs (dm u2)).length c3, .int .i64 (de u2)] 24))))
  have yB10_3x_0 := KB10_3x.out.cell (i := 0) rfl
  have yB10_3x_1 := KB10_3x.out.cell (i := 1) rfl
  have yB10_3x_2 := KB10_3x.out.cell (i := 2) rfl
  have KB12_3x := Ho.mk (KB12.out)
  have yB12_3x_0 := KB12_3x.out.cell (i := 0) rfl
  have yB12_3x_1 := KB12_3x.out.cell (i := 1) rfl
  have yB12_3x_2 := KB12_3x.out.cell (i := 2) rfl
  go_wp2_with fail
  (with_reducible refine (F1.rCmp (n2.bel ((((Bel.refl _).alloc (.cells #[.bool (dneg u1), .slice A2 (digs (dm u1)).length c2, .int .i64 (de u1)] 24)).trans b3).alloc (.cells #[.bool (dneg u2), .slice A3 (digs (dm u2)).length c3, .int .i64 (de u2)] 24))) (n3.bel ((Bel.refl _).alloc (.cells #[.bool (dneg u2), .slice A3 (digs (dm u2)).length c3, .int .i64 (de u2)] 24))) (by omega) (by omega) (r := -1) HRF.out).mono ?_); rintro e w4 ⟨rfl, b4⟩
  clear yB10_3x_0 yB10_3x_1 yB10_3x_2 yB12_3x_0 yB12_3x_1 yB12_3x_2
  have KB10_4 := Ho.mk ((KB10_3x.out.bel ((Bel.refl _).trans b4)))
  have yB10_4_0 := KB10_4.out.cell (i := 0) rfl
  have yB10_4_1 := KB10_4.out.cell (i := 1) rfl
  have yB10_4_2 := KB10_4.out.cell (i := 2) rfl
  have KB12_4 := Ho.mk ((KB12_3x.out.bel ((Bel.refl _).trans b4)))
  have yB12_4_0 := KB12_4.out.cell (i := 0) rfl
  have yB12_4_1 := KB12_4.out.cell (i := 1) rfl
  have yB12_4_2 := KB12_4.out.cell (i := 2) rfl
  go_wp2_with fail
  (with_reducible refine (F1.sameB (n2.bel (((((Bel.refl _).alloc (.cells #[.bool (dneg u1), .slice A2 (digs (dm u1)).length c2, .int .i64 (de u1)] 24)).trans b3).alloc (.cells #[.bool (dneg u2), .slice A3 (digs (dm u2)).length c3, .int .i64 (de u2)] 24)).trans b4)) (n3.bel (((Bel.refl _).alloc (.cells #[.bool (dneg u2), .slice A3 (digs (dm u2)).length c3, .int .i64 (de u2)] 24)).trans b4)) (b := false) HBS.out).mono ?_); rintro e w5 ⟨rfl, b5⟩
  clear yB10_4_0 yB10_4_1 yB10_4_2 yB12_4_0 yB12_4_1 yB12_4_2
  have KB4_5 := Ho.mk ((KB0.out.bel ((((((((Bel.refl _).trans b1).trans b2).alloc (.cells #[.bool (dneg u1), .slice A2 (digs (dm u1)).length c2, .int .i64 (de u1)] 24)).trans b3).alloc (.cells #[.bool (dneg u2), .slice A3 (digs (dm u2)).length c3, .int .i64 (de u2)] 24)).trans b4).trans b5)))
  have yB4_5_0 := KB4_5.out.cell (i := 0) rfl
  have yB4_5_1 := KB4_5.out.cell (i := 1) rfl
  have yB4_5_2 := KB4_5.out.cell (i := 2) rfl
  go_wp2_with fail
  (with_reducible refine ((HGA.out _ (g0.trans ((((((((Bel.refl _).trans b1).trans b2).alloc (.cells #[.bool (dneg u1), .slice A2 (digs (dm u1)).length c2, .int .i64 (de u1)] 24)).trans b3).alloc (.cells #[.bool (dneg u2), .slice A3 (digs (dm u2)).length c3, .int .i64 (de u2)] 24)).trans b4).trans b5)))).mono ?_); rintro e w6 ⟨rfl, b6⟩
  clear yB4_5_0 yB4_5_1 yB4_5_2
  have KB5_6 := Ho.mk ((KB1.out.bel (((((((((Bel.refl _).trans b1).trans b2).alloc (.cells #[.bool (dneg u1), .slice A2 (digs (dm u1)).length c2, .int .i64 (de u1)] 24)).trans b3).alloc (.cells #[.bool (dneg u2), .slice A3 (digs (dm u2)).length c3, .int .i64 (de u2)] 24)).trans b4).trans b5).trans b6)))
  have yB5_6_0 := KB5_6.out.cell (i := 0) rfl
  have yB5_6_1 := KB5_6.out.cell (i := 1) rfl
  have yB5_6_2 := KB5_6.out.cell (i := 2) rfl
  go_wp2_with fail
  (with_reducible refine ((HGB.out _ (g0.trans (((((((((Bel.refl _).trans b1).trans b2).alloc (.cells #[.bool (dneg u1), .slice A2 (digs (dm u1)).length c2, .int .i64 (de u1)] 24)).trans b3).alloc (.cells #[.bool (dneg u2), .slice A3 (digs (dm u2)).length c3, .int .i64 (de u2)] 24)).trans b4).trans b5).trans b6)))).mono ?_); rintro e w7 ⟨rfl, b7⟩
  clear yB5_6_0 yB5_6_1 yB5_6_2
  go_wp2_with fail
  have KB4_r8 := Ho.mk ((KB4_5.out.bel (((Bel.refl _).trans b6).trans b7)))
  have yB4_r8_0 := KB4_r8.out.cell (i := 0) rfl
  have yB4_r8_1 := KB4_r8.out.cell (i := 1) rfl
  have yB4_r8_2 := KB4_r8.out.cell (i := 2) rfl
  have KB5_r8 := Ho.mk ((KB5_6.out.bel ((Bel.refl _).trans b7)))
  have yB5_r8_0 := KB5_r8.out.cell (i := 0) rfl
  have yB5_r8_1 := KB5_r8.out.cell (i := 1) rfl
  have yB5_r8_2 := KB5_r8.out.cell (i := 2) rfl
  refine wp_region_held_drew (S := fun w' => Bel w7 w') (by kernel_rfl) (Bel.refl _).drew (fun hHeld => ?_)
  (try dsimp only at hHeld)
  refine r_take (i := 0) (v := ?_) rfl (by kernel_rfl) (by kernel_rfl) (by kernel_rfl) (fun _ _ _ h => h) (by kernel_rfl) hHeld ?_ ?_
  rotate_left
  · (intro w hSw; go_simp; try (with_reducible rfl))
  try simp only [Act.put, List.setIfInBounds_toArray, List.set_cons_zero, List.set_cons_succ]
  refine r_take (i := 1) (v := ?_) rfl (by kernel_rfl) (by kernel_rfl) (by kernel_rfl) (fun _ _ _ h => h) (by kernel_rfl) hHeld ?_ ?_
  rotate_left
  · (intro w hSw; go_simp; try (with_reducible rfl))
  try simp only [Act.put, List.setIfInBounds_toArray, List.set_cons_zero, List.set_cons_succ]
  refine r_take (i := 2) (v := ?_) rfl (by kernel_rfl) (by kernel_rfl) (by kernel_rfl) (fun _ _ _ h => h) (by kernel_rfl) hHeld ?_ ?_
  rotate_left
  · (intro w hSw; have z0 := Bel.cell hSw yB4_r8_0; have z1 := Bel.cell hSw yB4_r8_1; have z2 := Bel.cell hSw yB4_r8_2; go_simp; try (with_reducible rfl))
  try simp only [Act.put, List.setIfInBounds_toArray, List.set_cons_zero, List.set_cons_succ]
  refine r_take (i := 3) (v := ?_) rfl (by kernel_rfl) (by kernel_rfl) (by kernel_rfl) (fun _ _ _ h => h) (by kernel_rfl) hHeld ?_ ?_
  rotate_left
  · (intro w hSw; have z0 := Bel.cell hSw yB5_r8_0; have z1 := Bel.cell hSw yB5_r8_1; have z2 := Bel.cell hSw yB5_r8_2; go_simp; try (with_reducible rfl))
  try simp only [Act.put, List.setIfInBounds_toArray, List.set_cons_zero, List.set_cons_succ]
  refine r_call (i := 4) (by kernel_rfl) rfl (by kernel_rfl) (fun K hK => ?_)
  go_simp
  go_at_call 25
  (with_reducible refine (F1.rCmp ((p0.bel g0).bel (((((((((((Bel.refl _).trans b1).trans b2).alloc (.cells #[.bool (dneg u1), .slice A2 (digs (dm u1)).length c2, .int .i64 (de u1)] 24)).trans b3).alloc (.cells #[.bool (dneg u2), .slice A3 (digs (dm u2)).length c3, .int .i64 (de u2)] 24)).trans b4).trans b5).trans b6).trans b7).drew)) ((p1.bel g0).bel (((((((((((Bel.refl _).trans b1).trans b2).alloc (.cells #[.bool (dneg u1), .slice A2 (digs (dm u1)).length c2, .int .i64 (de u1)] 24)).trans b3).alloc (.cells #[.bool (dneg u2), .slice A3 (digs (dm u2)).length c3, .int .i64 (de u2)] 24)).trans b4).trans b5).trans b6).trans b7).drew)) (by omega) (by omega) (r := rd) HRD.out).mono ?_); rintro e w8 ⟨rfl, b8⟩
  try go_wp2_with fail
  refine hK.out _ _ (Bel.trans hHeld b8) (fun hHeld => ?_)
  clear hK K
  try simp only [Act.put, List.setIfInBounds_toArray, List.set_cons_zero, List.set_cons_succ]
  refine r_take (i := 5) (v := ?_) rfl (by kernel_rfl) (by kernel_rfl) (by kernel_rfl) (fun _ _ _ h => h) (by kernel_rfl) hHeld ?_ ?_
  rotate_left
  · (intro w hSw; go_simp; try (with_reducible rfl))
  try simp only [Act.put, List.setIfInBounds_toArray, List.set_cons_zero, List.set_cons_succ]
  refine r_take (i := 6) (v := ?_) rfl (by kernel_rfl) (by kernel_rfl) (by kernel_rfl) (fun _ _ _ h => h) (by kernel_rfl) hHeld ?_ ?_
  rotate_left
  · (intro w hSw; go_simp; try (with_reducible rfl))
  try simp only [Act.put, List.setIfInBounds_toArray, List.set_cons_zero, List.set_cons_succ]
  refine r_not (i := 7) rfl (by kernel_rfl) (by kernel_rfl) (by kernel_rfl) (fun _ _ _ h => h) (by kernel_rfl) hHeld ?_
  try simp only [Act.put, List.setIfInBounds_toArray, List.set_cons_zero, List.set_cons_succ]
  refine r_not (i := 8) rfl (by kernel_rfl) (by kernel_rfl) (by kernel_rfl) (fun _ _ _ h => h) (by kernel_rfl) hHeld ?_
  try simp only [Act.put, List.setIfInBounds_toArray, List.set_cons_zero, List.set_cons_succ]
  refine r_not (i := 9) rfl (by kernel_rfl) (by kernel_rfl) (by kernel_rfl) (fun _ _ _ h => h) (by kernel_rfl) hHeld ?_
  try simp only [Act.put, List.setIfInBounds_toArray, List.set_cons_zero, List.set_cons_succ]
  refine r_not (i := 10) rfl (by kernel_rfl) (by kernel_rfl) (by kernel_rfl) (fun _ _ _ h => h) (by kernel_rfl) hHeld ?_
  try simp only [Act.put, List.setIfInBounds_toArray, List.set_cons_zero, List.set_cons_succ]
  refine r_not (i := 11) rfl (by kernel_rfl) (by kernel_rfl) (by kernel_rfl) (fun _ _ _ h => h) (by kernel_rfl) hHeld ?_
  try simp only [Act.put, List.setIfInBounds_toArray, List.set_cons_zero, List.set_cons_succ]
  refine r_take (i := 12) (v := ?_) rfl (by kernel_rfl) (by kernel_rfl) (by kernel_rfl) (fun _ _ _ h => h) (by kernel_rfl) hHeld ?_ ?_
  rotate_left
  · (intro w hSw; go_simp; try (with_reducible rfl))
  try simp only [Act.put, List.setIfInBounds_toArray, List.set_cons_zero, List.set_cons_succ]
  refine r_take (i := 13) (v := ?_) rfl (by kernel_rfl) (by kernel_rfl) (by kernel_rfl) (fun _ _ _ h => h) (by kernel_rfl) hHeld ?_ ?_
  rotate_left
  · (intro w hSw; go_simp; try (with_reducible rfl))
  try simp only [Act.put, List.setIfInBounds_toArray, List.set_cons_zero, List.set_cons_succ]
  refine r_take (i := 14) (v := ?_) rfl (by kernel_rfl) (by kernel_rfl) (by kernel_rfl) (fun _ _ _ h => h) (by kernel_rfl) hHeld ?_ ?_
  rotate_left
  · (intro w hSw; go_simp; try (with_reducible rfl))
  try simp only [Act.put, List.setIfInBounds_toArray, List.set_cons_zero, List.set_cons_succ]
  refine r_take (i := 15) (v := ?_) rfl (by kernel_rfl) (by kernel_rfl) (by kernel_rfl) (fun _ _ _ h => h) (by kernel_rfl) hHeld ?_ ?_
  rotate_left
  · (intro w hSw; have z0 := Bel.cell hSw yB4_r8_0; have z1 := Bel.cell hSw yB4_r8_1; have z2 := Bel.cell hSw yB4_r8_2; go_simp; try (with_reducible rfl))
  try simp only [Act.put, List.setIfInBounds_toArray, List.set_cons_zero, List.set_cons_succ]
  refine r_take (i := 18) (v := ?_) rfl (by kernel_rfl) (by kernel_rfl) (by kernel_rfl) (fun _ _ _ h => h) (by kernel_rfl) hHeld ?_ ?_
  rotate_left
  · (intro w hSw; have z0 := Bel.cell hSw yB4_r8_0; have z1 := Bel.cell hSw yB4_r8_1; have z2 := Bel.cell hSw yB4_r8_2; go_simp; try (with_reducible rfl))
  try simp only [Act.put, List.setIfInBounds_toArray, List.set_cons_zero, List.set_cons_succ]
  refine r_call (i := 16) (by kernel_rfl) rfl (by kernel_rfl) (fun K hK => ?_)
  go_simp
  go_at_call 29
  (with_reducible refine (F1.rFlip ((p0.bel g0).bel ((((((((((((Bel.refl _).trans b1).trans b2).alloc (.cells #[.bool (dneg u1), .slice A2 (digs (dm u1)).length c2, .int .i64 (de u1)] 24)).trans b3).alloc (.cells #[.bool (dneg u2), .slice A3 (digs (dm u2)).length c3, .int .i64 (de u2)] 24)).trans b4).trans b5).trans b6).trans b7).drew).trans b8))).mono ?_); rintro e w9 ⟨A9, c9, rfl, n9, b9⟩
  try go_wp2_with fail
  refine hK.out _ _ (Bel.trans hHeld b9) (fun hHeld => ?_)
  clear hK K
  try simp only [Act.put, List.setIfInBounds_toArray, List.set_cons_zero, List.set_cons_succ]
  refine r_call (i := 17) (by kernel_rfl) rfl (by kernel_rfl) (fun K hK => ?_)
  go_simp
  go_at_call 47
  (with_reducible refine (nearD n9 (by omega) (by omega) (r := nc) HNC.out).mono ?_); rintro e w10 ⟨rfl, b10⟩
  try go_wp2_with fail
  refine hK.out _ _ (Bel.trans hHeld b10) (fun hHeld => ?_)
  clear hK K
  try simp only [Act.put, List.setIfInBounds_toArray, List.set_cons_zero, List.set_cons_succ]
  refine r_call (i := 19) (by kernel_rfl) rfl (by kernel_rfl) (fun K hK => ?_)
  go_simp
  go_at_call 47
  (with_reducible refine (nearD ((p0.bel g0).bel ((((((((((((((Bel.refl _).trans b1).trans b2).alloc (.cells #[.bool (dneg u1), .slice A2 (digs (dm u1)).length c2, .int .i64 (de u1)] 24)).trans b3).alloc (.cells #[.bool (dneg u2), .slice A3 (digs (dm u2)).length c3, .int .i64 (de u2)] 24)).trans b4).trans b5).trans b6).trans b7).drew).trans b8).trans b9).trans b10)) (by omega) (by omega) (r := na) HNA.out).mono ?_); rintro e w11 ⟨rfl, b11⟩
  try go_wp2_with fail
  refine hK.out _ _ (Bel.trans hHeld b11) (fun hHeld => ?_)
  clear hK K
  try simp only [Act.put, List.setIfInBounds_toArray, List.set_cons_zero, List.set_cons_succ]
  refine r_take (i := 20) (v := ?_) rfl (by kernel_rfl) (by kernel_rfl) (by kernel_rfl) (fun _ _ _ h => h) (by kernel_rfl) hHeld ?_ ?_
  rotate_left
  · (intro w hSw; go_simp; try (with_reducible rfl))
  try simp only [Act.put, List.setIfInBounds_toArray, List.set_cons_zero, List.set_cons_succ]
  refine r_take (i := 21) (v := ?_) rfl (by kernel_rfl) (by kernel_rfl) (by kernel_rfl) (fun _ _ _ h => h) (by kernel_rfl) hHeld ?_ ?_
  rotate_left
  · (intro w hSw; go_simp; try (with_reducible rfl))
  try simp only [Act.put, List.setIfInBounds_toArray, List.set_cons_zero, List.set_cons_succ]
  refine r_take (i := 22) (v := ?_) rfl (by kernel_rfl) (by kernel_rfl) (by kernel_rfl) (fun _ _ _ h => h) (by kernel_rfl) hHeld ?_ ?_
  rotate_left
  · (intro w hSw; go_simp; try (with_reducible rfl))
  try simp only [Act.put, List.setIfInBounds_toArray, List.set_cons_zero, List.set_cons_succ]
  refine r_take (i := 23) (v := ?_) rfl (by kernel_rfl) (by kernel_rfl) (by kernel_rfl) (fun _ _ _ h => h) (by kernel_rfl) hHeld ?_ ?_
  rotate_left
  · (intro w hSw; go_simp; try (with_reducible rfl))
  try simp only [Act.put, List.setIfInBounds_toArray, List.set_cons_zero, List.set_cons_succ]
  refine wpAnyH_done (by kernel_rfl) ?_ _
  all_goals
    have HE := Ho.mk (g0.trans (((((((((((((((Bel.refl _).trans b1).trans b2).alloc (.cells #[.bool (dneg u1), .slice A2 (digs (dm u1)).length c2, .int .i64 (de u1)] 24)).trans b3).alloc (.cells #[.bool (dneg u2), .slice A3 (digs (dm u2)).length c3, .int .i64 (de u2)] 24)).trans b4).trans b5).trans b6).trans b7).drew).trans b8).trans b9).trans b10).trans b11))
    go_wp2
    go_ret
    exact ⟨rfl, HE.out⟩
set_option maxRecDepth 100000 in
set_option maxHeartbeats 8000000 in
theorem order_lt_le {A0 : Option Addr} {c0 : Nat} {v0 : Int} {A1 : Option Addr} {c1 : Nat} {v1 : Int} {f g : Nat} (w : World) (T : Tab w) (p0 : Dv w A0 c0 v0 3000 3480) (p1 : Dv w A1 c1 v1 3000 3480) (hf : f < 2 * sgnW) (hg : g < 2 * sgnW) (h1 : frung f < infR) (h2 : frung g < infR) (h3 : V f < V g) (ga : H1.goodB (dneg v0) (digs (dm v0)) (de v0) = true) (gb : H1.goodB (dneg v1) (digs (dm v1)) (de v1) = true) (h4 : v0 ≤ v1) :
    Calls Tryd.prog 12 #[.agg #[.bool (dneg v0), .slice A0 (digs (dm v0)).length c0, .int .i64 (de v0)], .agg #[.bool (dneg v1), .slice A1 (digs (dm v1)).length c1, .int .i64 (de v1)], .float .f64 f, .float .f64 g] w (Tells w (.bool true)) := by
  have TT := Ho.mk T
  have HO1 := Ho.mk (fun (W : World) (gw : Bel w W) => ofD (b := f) hf W (T.bel gw) (v := fv f) (ok := true) (by first | exact fin_of h1 | exact inf_of h1) (by first | exact (decide_eq_true h1).symm | exact (decide_eq_false h1).symm))
  have HO2 := Ho.mk (fun (W : World) (gw : Bel w W) => ofD (b := g) hg W (T.bel gw) (v := fv g) (ok := true) (fin_of h2) (decide_eq_true h2).symm)
  obtain ⟨q1, q2, q3, q4⟩ := ord_lt hf hg h1 h2 h3
  have HRF := Ho.mk q3
  have HBS := Ho.mk q4
  clear q3 q4
  obtain ⟨u1, hu1⟩ : ∃ u : Int, fv f = u := ⟨_, rfl⟩
  rw [hu1] at HO1 HRF HBS
  clear hu1
  obtain ⟨u2, hu2⟩ : ∃ u : Int, fv g = u := ⟨_, rfl⟩
  rw [hu2] at HO2 HRF HBS
  clear hu2
  have HGA := Ho.mk (fun (W : World) (gw : Bel w W) => goodT (dneg v0) A0 c0 (digs (dm v0)) (de v0) W (p0.rd.bel gw) ga)
  have HGB := Ho.mk (fun (W : World) (gw : Bel w W) => goodT (dneg v1) A1 c1 (digs (dm v1)) (de v1) W (p1.rd.bel gw) gb)
  obtain ⟨rd, hrd⟩ : ∃ r, cmpI v0 v1 = r := ⟨_, rfl⟩
  have hrd0 : rd ≤ 0 := by rw [← hrd]; unfold cmpI; split <;> (try split) <;> omega
  have d1 : decide (0 < rd) = false := decide_eq_false (by omega)
  have HRD := Ho.mk hrd
  have cle := near_le h4
  clear hrd
  have cng := near_neg v0
  obtain ⟨na, hna⟩ : ∃ n, nw v0 = n := ⟨_, rfl⟩
  obtain ⟨nb, hnb⟩ : ∃ n, nw v1 = n := ⟨_, rfl⟩
  obtain ⟨nc, hnc⟩ : ∃ n, nw (-v0) = n := ⟨_, rfl⟩
  rw [hna, hnc] at cng
  rw [hna, hnb] at cle
  have hng := fun (W : World) => G9.run_neg na W
  generalize Op.negFloat .f64 na = nd at *
  have HNA := Ho.mk hna
  have HNB := Ho.mk hnb
  have HNC := Ho.mk hnc
  clear hna hnb hnc
  clear T hf hg ga gb h1 h2 h3 h4
  go_enter Tryd.func12, Tryd.ntmps12
  go_wp2_with fail
  have KB0 := Ho.mk ((Blk.new w [.bool (dneg v0), .slice A0 (digs (dm v0)).length c0, .int .i64 (de v0)] 24).old (.cells #[.bool (dneg v1), .slice A1 (digs (dm v1)).length c1, .int .i64 (de v1)] 24))
  have KB1 := Ho.mk (Blk.new (w.alloc (.cells #[.bool (dneg v0), .slice A0 (digs (dm v0)).length c0, .int .i64 (de v0)] 24)) [.bool (dneg v1), .slice A1 (digs (dm v1)).length c1, .int .i64 (de v1)] 24)
  have g0 := ((Bel.refl w).alloc (.cells #[.bool (dneg v0), .slice A0 (digs (dm v0)).length c0, .int .i64 (de v0)] 24)).alloc (.cells #[.bool (dneg v1), .slice A1 (digs (dm v1)).length c1, .int .i64 (de v1)] 24)
  rw [World.size_alloc] at KB1
  have hZ : ((w.alloc (.cells #[.bool (dneg v0), .slice A0 (digs (dm v0)).length c0, .int .i64 (de v0)] 24)).alloc (.cells #[.bool (dneg v1), .slice A1 (digs (dm v1)).length c1, .int .i64 (de v1)] 24)) = ((w.alloc (.cells #[.bool (dneg v0), .slice A0 (digs (dm v0)).length c0, .int .i64 (de v0)] 24)).alloc (.cells #[.bool (dneg v1), .slice A1 (digs (dm v1)).length c1, .int .i64 (de v1)] 24)) := rfl
  generalize ((w.alloc (.cells #[.bool (dneg v0), .slice A0 (digs (dm v0)).length c0, .int .i64 (de v0)] 24)).alloc (.cells #[.bool (dneg v1), .slice A1 (digs (dm v1)).length c1, .int .i64 (de v1)] 24)) = w0 at *
  clear hZ
  (with_reducible refine (headT _ (TT.out.bel (g0.trans (Bel.refl _)))).mono ?_); rintro e w1 ⟨rfl, b1⟩
  go_wp2_with fail
  (with_reducible refine (HO1.out _ (g0.trans ((Bel.refl _).trans b1))).mono ?_); rintro e w2 ⟨A2, c2, rfl, n2, b2⟩
  have KB10 := Ho.mk (Blk.new w2 [.bool (dneg u1), .slice A2 (digs (dm u1)).length c2, .int .i64 (de u1)] 24)
  go_wp2_with fail
  (with_reducible refine (HO2.out _ (g0.trans ((((Bel.refl _).trans b1).trans b2).alloc (.cells #[.bool (dneg u1), .slice A2 (digs (dm u1)).length c2, .int .i64 (de u1)] 24)))).mono ?_); rintro e w3 ⟨A3, c3, rfl, n3, b3⟩
  have KB12 := Ho.mk (Blk.new w3 [.bool (dneg u2), .slice A3 (digs (dm u2)).length c3, .int .i64 (de u2)] 24)
  have KB10_3x := Ho.mk ((KB10.out.bel (((Bel.refl _).trans b3).alloc (.cells #[.bool (dneg u2), .slice A3 (digs (dm u2)).length c3, .int .i64 (de u2)] 24))))
  have yB10_3x_0 := KB10_3x.out.cell (i := 0) rfl
  have yB10_3x_1 := KB10_3x.out.cell (i := 1) rfl
  have yB10_3x_2 := KB10_3x.out.cell (i := 2) rfl
  have KB12_3x := Ho.mk (KB12.out)
  have yB12_3x_0 := KB12_3x.out.cell (i := 0) rfl
  have yB12_3x_1 := KB12_3x.out.cell (i := 1) rfl
  have yB12_3x_2 := KB12_3x.out.cell (i := 2) rfl
  go_wp2_with fail
  (with_reducible refine (F1.rCmp (n2.bel ((((Bel.refl _).alloc (.cells #[.bool (dneg u1), .slice A2 (digs (dm u1)).length c2, .int .i64 (de u1)] 24)).trans b3).alloc (.cells #[.bool (dneg u2), .slice A3 (digs (dm u2)).length c3, .int .i64 (de u2)] 24))) (n3.bel ((Bel.refl _).alloc (.cells #[.bool (dneg u2), .slice A3 (digs (dm u2)).length c3, .int .i64 (de u2)] 24))) (by omega) (by omega) (r := -1) HRF.out).mono ?_); rintro e w4 ⟨rfl, b4⟩
  clear yB10_3x_0 yB10_3x_1 yB10_3x_2 yB12_3x_0 yB12_3x_1 yB12_3x_2
  have KB10_4 := Ho.mk ((KB10_3x.out.bel ((Bel.refl _).trans b4)))
  have yB10_4_0 := KB10_4.out.cell (i := 0) rfl
  have yB10_4_1 := KB10_4.out.cell (i := 1) rfl
  have yB10_4_2 := KB10_4.out.cell (i := 2) rfl
  have KB12_4 := Ho.mk ((KB12_3x.out.bel ((Bel.refl _).trans b4)))
  have yB12_4_0 := KB12_4.out.cell (i := 0) rfl
  have yB12_4_1 := KB12_4.out.cell (i := 1) rfl
  have yB12_4_2 := KB12_4.out.cell (i := 2) rfl
  go_wp2_with fail
  (with_reducible refine (F1.sameB (n2.bel (((((Bel.refl _).alloc (.cells #[.bool (dneg u1), .slice A2 (digs (dm u1)).length c2, .int .i64 (de u1)] 24)).trans b3).alloc (.cells #[.bool (dneg u2), .slice A3 (digs (dm u2)).length c3, .int .i64 (de u2)] 24)).trans b4)) (n3.bel (((Bel.refl _).alloc (.cells #[.bool (dneg u2), .slice A3 (digs (dm u2)).length c3, .int .i64 (de u2)] 24)).trans b4)) (b := false) HBS.out).mono ?_); rintro e w5 ⟨rfl, b5⟩
  clear yB10_4_0 yB10_4_1 yB10_4_2 yB12_4_0 yB12_4_1 yB12_4_2
  have KB4_5 := Ho.mk ((KB0.out.bel ((((((((Bel.refl _).trans b1).trans b2).alloc (.cells #[.bool (dneg u1), .slice A2 (digs (dm u1)).length c2, .int .i64 (de u1)] 24)).trans b3).alloc (.cells #[.bool (dneg u2), .slice A3 (digs (dm u2)).length c3, .int .i64 (de u2)] 24)).trans b4).trans b5)))
  have yB4_5_0 := KB4_5.out.cell (i := 0) rfl
  have yB4_5_1 := KB4_5.out.cell (i := 1) rfl
  have yB4_5_2 := KB4_5.out.cell (i := 2) rfl
  go_wp2_with fail
  (with_reducible refine ((HGA.out _ (g0.trans ((((((((Bel.refl _).trans b1).trans b2).alloc (.cells #[.bool (dneg u1), .slice A2 (digs (dm u1)).length c2, .int .i64 (de u1)] 24)).trans b3).alloc (.cells #[.bool (dneg u2), .slice A3 (digs (dm u2)).length c3, .int .i64 (de u2)] 24)).trans b4).trans b5)))).mono ?_); rintro e w6 ⟨rfl, b6⟩
  clear yB4_5_0 yB4_5_1 yB4_5_2
  have KB5_6 := Ho.mk ((KB1.out.bel (((((((((Bel.refl _).trans b1).trans b2).alloc (.cells #[.bool (dneg u1), .slice A2 (digs (dm u1)).length c2, .int .i64 (de u1)] 24)).trans b3).alloc (.cells #[.bool (dneg u2), .slice A3 (digs (dm u2)).length c3, .int .i64 (de u2)] 24)).trans b4).trans b5).trans b6)))
  have yB5_6_0 := KB5_6.out.cell (i := 0) rfl
  have yB5_6_1 := KB5_6.out.cell (i := 1) rfl
  have yB5_6_2 := KB5_6.out.cell (i := 2) rfl
  go_wp2_with fail
  (with_reducible refine ((HGB.out _ (g0.trans (((((((((Bel.refl _).trans b1).trans b2).alloc (.cells #[.bool (dneg u1), .slice A2 (digs (dm u1)).length c2, .int .i64 (de u1)] 24)).trans b3).alloc (.cells #[.bool (dneg u2), .slice A3 (digs (dm u2)).length c3, .int .i64 (de u2)] 24)).trans b4).trans b5).trans b6)))).mono ?_); rintro e w7 ⟨rfl, b7⟩
  clear yB5_6_0 yB5_6_1 yB5_6_2
  go_wp2_with fail
  have KB4_r8 := Ho.mk ((KB4_5.out.bel (((Bel.refl _).trans b6).trans b7)))
  have yB4_r8_0 := KB4_r8.out.cell (i := 0) rfl
  have yB4_r8_1 := KB4_r8.out.cell (i := 1) rfl
  have yB4_r8_2 := KB4_r8.out.cell (i := 2) rfl
  have KB5_r8 := Ho.mk ((KB5_6.out.bel ((Bel.refl _).trans b7)))
  have yB5_r8_0 := KB5_r8.out.cell (i := 0) rfl
  have yB5_r8_1 := KB5_r8.out.cell (i := 1) rfl
  have yB5_r8_2 := KB5_r8.out.cell (i := 2) rfl
  refine wp_region_held_drew (S := fun w' => Bel w7 w') (by kernel_rfl) (Bel.refl _).drew (fun hHeld => ?_)
  (try dsimp only at hHeld)
  refine r_take (i := 0) (v := ?_) rfl (by kernel_rfl) (by kernel_rfl) (by kernel_rfl) (fun _ _ _ h => h) (by kernel_rfl) hHeld ?_ ?_
  rotate_left
  · (intro w hSw; go_simp; try (with_reducible rfl))
  try simp only [Act.put, List.setIfInBounds_toArray, List.set_cons_zero, List.set_cons_succ]
  refine r_take (i := 1) (v := ?_) rfl (by kernel_rfl) (by kernel_rfl) (by kernel_rfl) (fun _ _ _ h => h) (by kernel_rfl) hHeld ?_ ?_
  rotate_left
  · (intro w hSw; go_simp; try (with_reducible rfl))
  try simp only [Act.put, List.setIfInBounds_toArray, List.set_cons_zero, List.set_cons_succ]
  refine r_take (i := 2) (v := ?_) rfl (by kernel_rfl) (by kernel_rfl) (by kernel_rfl) (fun _ _ _ h => h) (by kernel_rfl) hHeld ?_ ?_
  rotate_left
  · (intro w hSw; have z0 := Bel.cell hSw yB4_r8_0; have z1 := Bel.cell hSw yB4_r8_1; have z2 := Bel.cell hSw yB4_r8_2; go_simp; try (with_reducible rfl))
  try simp only [Act.put, List.setIfInBounds_toArray, List.set_cons_zero, List.set_cons_succ]
  refine r_take (i := 3) (v := ?_) rfl (by kernel_rfl) (by kernel_rfl) (by kernel_rfl) (fun _ _ _ h => h) (by kernel_rfl) hHeld ?_ ?_
  rotate_left
  · (intro w hSw; have z0 := Bel.cell hSw yB5_r8_0; have z1 := Bel.cell hSw yB5_r8_1; have z2 := Bel.cell hSw yB5_r8_2; go_simp; try (with_reducible rfl))
  try simp only [Act.put, List.setIfInBounds_toArray, List.set_cons_zero, List.set_cons_succ]
  refine r_call (i := 4) (by kernel_rfl) rfl (by kernel_rfl) (fun K hK => ?_)
  go_simp
  go_at_call 25
  (with_reducible refine (F1.rCmp ((p0.bel g0).bel (((((((((((Bel.refl _).trans b1).trans b2).alloc (.cells #[.bool (dneg u1), .slice A2 (digs (dm u1)).length c2, .int .i64 (de u1)] 24)).trans b3).alloc (.cells #[.bool (dneg u2), .slice A3 (digs (dm u2)).length c3, .int .i64 (de u2)] 24)).trans b4).trans b5).trans b6).trans b7).drew)) ((p1.bel g0).bel (((((((((((Bel.refl _).trans b1).trans b2).alloc (.cells #[.bool (dneg u1), .slice A2 (digs (dm u1)).length c2, .int .i64 (de u1)] 24)).trans b3).alloc (.cells #[.bool (dneg u2), .slice A3 (digs (dm u2)).length c3, .int .i64 (de u2)] 24)).trans b4).trans b5).trans b6).trans b7).drew)) (by omega) (by omega) (r := rd) HRD.out).mono ?_); rintro e w8 ⟨rfl, b8⟩
  try go_wp2_with fail
  refine hK.out _ _ (Bel.trans hHeld b8) (fun hHeld => ?_)
  clear hK K
  try simp only [Act.put, List.setIfInBounds_toArray, List.set_cons_zero, List.set_cons_succ]
  refine r_take (i := 5) (v := ?_) rfl (by kernel_rfl) (by kernel_rfl) (by kernel_rfl) (fun _ _ _ h => h) (by kernel_rfl) hHeld ?_ ?_
  rotate_left
  · (intro w hSw; go_simp; try (with_reducible rfl))
  try simp only [Act.put, List.setIfInBounds_toArray, List.set_cons_zero, List.set_cons_succ]
  refine r_take (i := 6) (v := ?_) rfl (by kernel_rfl) (by kernel_rfl) (by kernel_rfl) (fun _ _ _ h => h) (by kernel_rfl) hHeld ?_ ?_
  rotate_left
  · (intro w hSw; go_simp; try (with_reducible rfl))
  try simp only [Act.put, List.setIfInBounds_toArray, List.set_cons_zero, List.set_cons_succ]
  refine r_take (i := 7) (v := ?_) rfl (by kernel_rfl) (by kernel_rfl) (by kernel_rfl) (fun _ _ _ h => h) (by kernel_rfl) hHeld ?_ ?_
  rotate_left
  · (intro w hSw; have z0 := Bel.cell hSw yB4_r8_0; have z1 := Bel.cell hSw yB4_r8_1; have z2 := Bel.cell hSw yB4_r8_2; go_simp; try (with_reducible rfl))
  try simp only [Act.put, List.setIfInBounds_toArray, List.set_cons_zero, List.set_cons_succ]
  refine r_take (i := 9) (v := ?_) rfl (by kernel_rfl) (by kernel_rfl) (by kernel_rfl) (fun _ _ _ h => h) (by kernel_rfl) hHeld ?_ ?_
  rotate_left
  · (intro w hSw; have z0 := Bel.cell hSw yB5_r8_0; have z1 := Bel.cell hSw yB5_r8_1; have z2 := Bel.cell hSw yB5_r8_2; go_simp; try (with_reducible rfl))
  try simp only [Act.put, List.setIfInBounds_toArray, List.set_cons_zero, List.set_cons_succ]
  refine r_call (i := 8) (by kernel_rfl) rfl (by kernel_rfl) (fun K hK => ?_)
  go_simp
  go_at_call 47
  (with_reducible refine (nearD ((p0.bel g0).bel ((((((((((((Bel.refl _).trans b1).trans b2).alloc (.cells #[.bool (dneg u1), .slice A2 (digs (dm u1)).length c2, .int .i64 (de u1)] 24)).trans b3).alloc (.cells #[.bool (dneg u2), .slice A3 (digs (dm u2)).length c3, .int .i64 (de u2)] 24)).trans b4).trans b5).trans b6).trans b7).drew).trans b8)) (by omega) (by omega) (r := na) HNA.out).mono ?_); rintro e w9 ⟨rfl, b9⟩
  try go_wp2_with fail
  refine hK.out _ _ (Bel.trans hHeld b9) (fun hHeld => ?_)
  clear hK K
  try simp only [Act.put, List.setIfInBounds_toArray, List.set_cons_zero, List.set_cons_succ]
  refine r_call (i := 10) (by kernel_rfl) rfl (by kernel_rfl) (fun K hK => ?_)
  go_simp
  go_at_call 47
  (with_reducible refine (nearD ((p1.bel g0).bel (((((((((((((Bel.refl _).trans b1).trans b2).alloc (.cells #[.bool (dneg u1), .slice A2 (digs (dm u1)).length c2, .int .i64 (de u1)] 24)).trans b3).alloc (.cells #[.bool (dneg u2), .slice A3 (digs (dm u2)).length c3, .int .i64 (de u2)] 24)).trans b4).trans b5).trans b6).trans b7).drew).trans b8).trans b9)) (by omega) (by omega) (r := nb) HNB.out).mono ?_); rintro e w10 ⟨rfl, b10⟩
  try go_wp2_with fail
  refine hK.out _ _ (Bel.trans hHeld b10) (fun hHeld => ?_)
  clear hK K
  try simp only [Act.put, List.setIfInBounds_toArray, List.set_cons_zero, List.set_cons_succ]
  refine r_take (i := 11) (v := ?_) rfl (by kernel_rfl) (by kernel_rfl) (by kernel_rfl) (fun _ _ _ h => h) (by kernel_rfl) hHeld ?_ ?_
  rotate_left
  · (intro w hSw; go_simp; try (with_reducible rfl))
  try simp only [Act.put, List.setIfInBounds_toArray, List.set_cons_zero, List.set_cons_succ]
  refine r_take (i := 12) (v := ?_) rfl (by kernel_rfl) (by kernel_rfl) (by kernel_rfl) (fun _ _ _ h => h) (by kernel_rfl) hHeld ?_ ?_
  rotate_left
  · (intro w hSw; go_simp; try (with_reducible rfl))
  try simp only [Act.put, List.setIfInBounds_toArray, List.set_cons_zero, List.set_cons_succ]
  refine r_take (i := 13) (v := ?_) rfl (by kernel_rfl) (by kernel_rfl) (by kernel_rfl) (fun _ _ _ h => h) (by kernel_rfl) hHeld ?_ ?_
  rotate_left
  · (intro w hSw; go_simp; try (with_reducible rfl))
  try simp only [Act.put, List.setIfInBounds_toArray, List.set_cons_zero, List.set_cons_succ]
  refine r_take (i := 14) (v := ?_) rfl (by kernel_rfl) (by kernel_rfl) (by kernel_rfl) (fun _ _ _ h => h) (by kernel_rfl) hHeld ?_ ?_
  rotate_left
  · (intro w hSw; go_simp; try (with_reducible rfl))
  try simp only [Act.put, List.setIfInBounds_toArray, List.set_cons_zero, List.set_cons_succ]
  refine r_take (i := 15) (v := ?_) rfl (by kernel_rfl) (by kernel_rfl) (by kernel_rfl) (fun _ _ _ h => h) (by kernel_rfl) hHeld ?_ ?_
  rotate_left
  · (intro w hSw; have z0 := Bel.cell hSw yB4_r8_0; have z1 := Bel.cell hSw yB4_r8_1; have z2 := Bel.cell hSw yB4_r8_2; go_simp; try (with_reducible rfl))
  try simp only [Act.put, List.setIfInBounds_toArray, List.set_cons_zero, List.set_cons_succ]
  refine r_take (i := 18) (v := ?_) rfl (by kernel_rfl) (by kernel_rfl) (by kernel_rfl) (fun _ _ _ h => h) (by kernel_rfl) hHeld ?_ ?_
  rotate_left
  · (intro w hSw; have z0 := Bel.cell hSw yB4_r8_0; have z1 := Bel.cell hSw yB4_r8_1; have z2 := Bel.cell hSw yB4_r8_2; go_simp; try (with_reducible rfl))
  try simp only [Act.put, List.setIfInBounds_toArray, List.set_cons_zero, List.set_cons_succ]
  refine r_call (i := 16) (by kernel_rfl) rfl (by kernel_rfl) (fun K hK => ?_)
  go_simp
  go_at_call 29
  (with_reducible refine (F1.rFlip ((p0.bel g0).bel ((((((((((((((Bel.refl _).trans b1).trans b2).alloc (.cells #[.bool (dneg u1), .slice A2 (digs (dm u1)).length c2, .int .i64 (de u1)] 24)).trans b3).alloc (.cells #[.bool (dneg u2), .slice A3 (digs (dm u2)).length c3, .int .i64 (de u2)] 24)).trans b4).trans b5).trans b6).trans b7).drew).trans b8).trans b9).trans b10))).mono ?_); rintro e w11 ⟨A11, c11, rfl, n11, b11⟩
  try go_wp2_with fail
  refine hK.out _ _ (Bel.trans hHeld b11) (fun hHeld => ?_)
  clear hK K
  try simp only [Act.put, List.setIfInBounds_toArray, List.set_cons_zero, List.set_cons_succ]
  refine r_call (i := 17) (by kernel_rfl) rfl (by kernel_rfl) (fun K hK => ?_)
  go_simp
  go_at_call 47
  (with_reducible refine (nearD n11 (by omega) (by omega) (r := nc) HNC.out).mono ?_); rintro e w12 ⟨rfl, b12⟩
  try go_wp2_with fail
  refine hK.out _ _ (Bel.trans hHeld b12) (fun hHeld => ?_)
  clear hK K
  try simp only [Act.put, List.setIfInBounds_toArray, List.set_cons_zero, List.set_cons_succ]
  refine r_call (i := 19) (by kernel_rfl) rfl (by kernel_rfl) (fun K hK => ?_)
  go_simp
  go_at_call 47
  (with_reducible refine (nearD ((p0.bel g0).bel ((((((((((((((((Bel.refl _).trans b1).trans b2).alloc (.cells #[.bool (dneg u1), .slice A2 (digs (dm u1)).length c2, .int .i64 (de u1)] 24)).trans b3).alloc (.cells #[.bool (dneg u2), .slice A3 (digs (dm u2)).length c3, .int .i64 (de u2)] 24)).trans b4).trans b5).trans b6).trans b7).drew).trans b8).trans b9).trans b10).trans b11).trans b12)) (by omega) (by omega) (r := na) HNA.out).mono ?_); rintro e w13 ⟨rfl, b13⟩
  try go_wp2_with fail
  refine hK.out _ _ (Bel.trans hHeld b13) (fun hHeld => ?_)
  clear hK K
  try simp only [Act.put, List.setIfInBounds_toArray, List.set_cons_zero, List.set_cons_succ]
  refine r_take (i := 20) (v := ?_) rfl (by kernel_rfl) (by kernel_rfl) (by kernel_rfl) (fun _ _ _ h => h) (by kernel_rfl) hHeld ?_ ?_
  rotate_left
  · (intro w hSw; go_simp; try (with_reducible rfl))
  try simp only [Act.put, List.setIfInBounds_toArray, List.set_cons_zero, List.set_cons_succ]
  refine r_take (i := 21) (v := ?_) rfl (by kernel_rfl) (by kernel_rfl) (by kernel_rfl) (fun _ _ _ h => h) (by kernel_rfl) hHeld ?_ ?_
  rotate_left
  · (intro w hSw; go_simp; try (with_reducible rfl))
  try simp only [Act.put, List.setIfInBounds_toArray, List.set_cons_zero, List.set_cons_succ]
  refine r_take (i := 22) (v := ?_) rfl (by kernel_rfl) (by kernel_rfl) (by kernel_rfl) (fun _ _ _ h => h) (by kernel_rfl) hHeld ?_ ?_
  rotate_left
  · (intro w hSw; go_simp; try (with_reducible rfl))
  try simp only [Act.put, List.setIfInBounds_toArray, List.set_cons_zero, List.set_cons_succ]
  refine r_take (i := 23) (v := ?_) rfl (by kernel_rfl) (by kernel_rfl) (by kernel_rfl) (fun _ _ _ h => h) (by kernel_rfl) hHeld ?_ ?_
  rotate_left
  · (intro w hSw; go_simp; try (with_reducible rfl))
  try simp only [Act.put, List.setIfInBounds_toArray, List.set_cons_zero, List.set_cons_succ]
  refine wpAnyH_done (by kernel_rfl) ?_ _
  all_goals
    have HE := Ho.mk (g0.trans (((((((((((((((((Bel.refl _).trans b1).trans b2).alloc (.cells #[.bool (dneg u1), .slice A2 (digs (dm u1)).length c2, .int .i64 (de u1)] 24)).trans b3).alloc (.cells #[.bool (dneg u2), .slice A3 (digs (dm u2)).length c3, .int .i64 (de u2)] 24)).trans b4).trans b5).trans b6).trans b7).drew).trans b8).trans b9).trans b10).trans b11).trans b12).trans b13))
    go_wp2
    go_ret
    exact ⟨rfl, HE.out⟩
set_option maxRecDepth 100000 in
set_option maxHeartbeats 8000000 in
theorem order_eq_a0 (n0 : Bool) (A0 : Option Addr) (c0 : Nat) (l0 : List Int) (e0 : Int) (n1 : Bool) (A1 : Option Addr) (c1 : Nat) (l1 : List Int) (e1 : Int) {f g : Nat} (w : World) (T : Tab w) (hr0 : Rd w A0 l0) (hr1 : Rd w A1 l1) (hf : f < 2 * sgnW) (hg : g < 2 * sgnW) (h1 : frung f < infR) (h2 : frung g < infR) (h3 : V f = V g) (ga : H1.goodB n0 l0 e0 = false) :
    Calls Tryd.prog 12 #[.agg #[.bool n0, .slice A0 l0.length c0, .int .i64 e0], .agg #[.bool n1, .slice A1 l1.length c1, .int .i64 e1], .float .f64 f, .float .f64 g] w (Tells w (.bool true)) := by
  have TT := Ho.mk T
  have HO1 := Ho.mk (fun (W : World) (gw : Bel w W) => ofD (b := f) hf W (T.bel gw) (v := fv f) (ok := true) (by first | exact fin_of h1 | exact inf_of h1) (by first | exact (decide_eq_true h1).symm | exact (decide_eq_false h1).symm))
  have HO2 := Ho.mk (fun (W : World) (gw : Bel w W) => ofD (b := g) hg W (T.bel gw) (v := fv g) (ok := true) (fin_of h2) (decide_eq_true h2).symm)
  obtain ⟨q1, q2, q3, q4⟩ := ord_eq hf hg h1 h2 h3
  have HRF := Ho.mk q3
  have HBS := Ho.mk q4
  clear q3 q4
  obtain ⟨u1, hu1⟩ : ∃ u : Int, fv f = u := ⟨_, rfl⟩
  rw [hu1] at HO1 HRF HBS
  clear hu1
  obtain ⟨u2, hu2⟩ : ∃ u : Int, fv g = u := ⟨_, rfl⟩
  rw [hu2] at HO2 HRF HBS
  clear hu2
  have HGA := Ho.mk (fun (W : World) (gw : Bel w W) => goodT n0 A0 c0 l0 e0 W (hr0.bel gw) ga)
  clear T hf hg ga h1 h2 h3
  go_enter Tryd.func12, Tryd.ntmps12
  go_wp2_with fail
  have KB0 := Ho.mk ((Blk.new w [.bool n0, .slice A0 l0.length c0, .int .i64 e0] 24).old (.cells #[.bool n1, .slice A1 l1.length c1, .int .i64 e1] 24))
  have KB1 := Ho.mk (Blk.new (w.alloc (.cells #[.bool n0, .slice A0 l0.length c0, .int .i64 e0] 24)) [.bool n1, .slice A1 l1.length c1, .int .i64 e1] 24)
  have g0 := ((Bel.refl w).alloc (.cells #[.bool n0, .slice A0 l0.length c0, .int .i64 e0] 24)).alloc (.cells #[.bool n1, .slice A1 l1.length c1, .int .i64 e1] 24)
  rw [World.size_alloc] at KB1
  have hZ : ((w.alloc (.cells #[.bool n0, .slice A0 l0.length c0, .int .i64 e0] 24)).alloc (.cells #[.bool n1, .slice A1 l1.length c1, .int .i64 e1] 24)) = ((w.alloc (.cells #[.bool n0, .slice A0 l0.length c0, .int .i64 e0] 24)).alloc (.cells #[.bool n1, .slice A1 l1.length c1, .int .i64 e1] 24)) := rfl
  generalize ((w.alloc (.cells #[.bool n0, .slice A0 l0.length c0, .int .i64 e0] 24)).alloc (.cells #[.bool n1, .slice A1 l1.length c1, .int .i64 e1] 24)) = w0 at *
  clear hZ
  (with_reducible refine (headT _ (TT.out.bel (g0.trans (Bel.refl _)))).mono ?_); rintro e w1 ⟨rfl, b1⟩
  go_wp2_with fail
  (with_reducible refine (HO1.out _ (g0.trans ((Bel.refl _).trans b1))).mono ?_); rintro e w2 ⟨A2, c2, rfl, n2, b2⟩
  have KB10 := Ho.mk (Blk.new w2 [.bool (dneg u1), .slice A2 (digs (dm u1)).length c2, .int .i64 (de u1)] 24)
  go_wp2_with fail
  (with_reducible refine (HO2.out _ (g0.trans ((((Bel.refl _).trans b1).trans b2).alloc (.cells #[.bool (dneg u1), .slice A2 (digs (dm u1)).length c2, .int .i64 (de u1)] 24)))).mono ?_); rintro e w3 ⟨A3, c3, rfl, n3, b3⟩
  have KB12 := Ho.mk (Blk.new w3 [.bool (dneg u2), .slice A3 (digs (dm u2)).length c3, .int .i64 (de u2)] 24)
  have KB10_3x := Ho.mk ((KB10.out.bel (((Bel.refl _).trans b3).alloc (.cells #[.bool (dneg u2), .slice A3 (digs (dm u2)).length c3, .int .i64 (de u2)] 24))))
  have yB10_3x_0 := KB10_3x.out.cell (i := 0) rfl
  have yB10_3x_1 := KB10_3x.out.cell (i := 1) rfl
  have yB10_3x_2 := KB10_3x.out.cell (i := 2) rfl
  have KB12_3x := Ho.mk (KB12.out)
  have yB12_3x_0 := KB12_3x.out.cell (i := 0) rfl
  have yB12_3x_1 := KB12_3x.out.cell (i := 1) rfl
  have yB12_3x_2 := KB12_3x.out.cell (i := 2) rfl
  go_wp2_with fail
  (with_reducible refine (F1.rCmp (n2.bel ((((Bel.refl _).alloc (.cells #[.bool (dneg u1), .slice A2 (digs (dm u1)).length c2, .int .i64 (de u1)] 24)).trans b3).alloc (.cells #[.bool (dneg u2), .slice A3 (digs (dm u2)).length c3, .int .i64 (de u2)] 24))) (n3.bel ((Bel.refl _).alloc (.cells #[.bool (dneg u2), .slice A3 (digs (dm u2)).length c3, .int .i64 (de u2)] 24))) (by omega) (by omega) (r := 0) HRF.out).mono ?_); rintro e w4 ⟨rfl, b4⟩
  clear yB10_3x_0 yB10_3x_1 yB10_3x_2 yB12_3x_0 yB12_3x_1 yB12_3x_2
  have KB10_4 := Ho.mk ((KB10_3x.out.bel ((Bel.refl _).trans b4)))
  have yB10_4_0 := KB10_4.out.cell (i := 0) rfl
  have yB10_4_1 := KB10_4.out.cell (i := 1) rfl
  have yB10_4_2 := KB10_4.out.cell (i := 2) rfl
  have KB12_4 := Ho.mk ((KB12_3x.out.bel ((Bel.refl _).trans b4)))
  have yB12_4_0 := KB12_4.out.cell (i := 0) rfl
  have yB12_4_1 := KB12_4.out.cell (i := 1) rfl
  have yB12_4_2 := KB12_4.out.cell (i := 2) rfl
  go_wp2_with fail
  (with_reducible refine (F1.sameB (n2.bel (((((Bel.refl _).alloc (.cells #[.bool (dneg u1), .slice A2 (digs (dm u1)).length c2, .int .i64 (de u1)] 24)).trans b3).alloc (.cells #[.bool (dneg u2), .slice A3 (digs (dm u2)).length c3, .int .i64 (de u2)] 24)).trans b4)) (n3.bel (((Bel.refl _).alloc (.cells #[.bool (dneg u2), .slice A3 (digs (dm u2)).length c3, .int .i64 (de u2)] 24)).trans b4)) (b := true) HBS.out).mono ?_); rintro e w5 ⟨rfl, b5⟩
  clear yB10_4_0 yB10_4_1 yB10_4_2 yB12_4_0 yB12_4_1 yB12_4_2
  have KB4_5 := Ho.mk ((KB0.out.bel ((((((((Bel.refl _).trans b1).trans b2).alloc (.cells #[.bool (dneg u1), .slice A2 (digs (dm u1)).length c2, .int .i64 (de u1)] 24)).trans b3).alloc (.cells #[.bool (dneg u2), .slice A3 (digs (dm u2)).length c3, .int .i64 (de u2)] 24)).trans b4).trans b5)))
  have yB4_5_0 := KB4_5.out.cell (i := 0) rfl
  have yB4_5_1 := KB4_5.out.cell (i := 1) rfl
  have yB4_5_2 := KB4_5.out.cell (i := 2) rfl
  go_wp2_with fail
  (with_reducible refine ((HGA.out _ (g0.trans ((((((((Bel.refl _).trans b1).trans b2).alloc (.cells #[.bool (dneg u1), .slice A2 (digs (dm u1)).length c2, .int .i64 (de u1)] 24)).trans b3).alloc (.cells #[.bool (dneg u2), .slice A3 (digs (dm u2)).length c3, .int .i64 (de u2)] 24)).trans b4).trans b5)))).mono ?_); rintro e w6 ⟨rfl, b6⟩
  clear yB4_5_0 yB4_5_1 yB4_5_2
  all_goals
    have HE := Ho.mk (g0.trans (((((((((Bel.refl _).trans b1).trans b2).alloc (.cells #[.bool (dneg u1), .slice A2 (digs (dm u1)).length c2, .int .i64 (de u1)] 24)).trans b3).alloc (.cells #[.bool (dneg u2), .slice A3 (digs (dm u2)).length c3, .int .i64 (de u2)] 24)).trans b4).trans b5).trans b6))
    go_wp2
    go_ret
    exact ⟨rfl, HE.out⟩
set_option maxRecDepth 100000 in
set_option maxHeartbeats 8000000 in
theorem order_eq_b0 (n0 : Bool) (A0 : Option Addr) (c0 : Nat) (l0 : List Int) (e0 : Int) (n1 : Bool) (A1 : Option Addr) (c1 : Nat) (l1 : List Int) (e1 : Int) {f g : Nat} (w : World) (T : Tab w) (hr0 : Rd w A0 l0) (hr1 : Rd w A1 l1) (hf : f < 2 * sgnW) (hg : g < 2 * sgnW) (h1 : frung f < infR) (h2 : frung g < infR) (h3 : V f = V g) (ga : H1.goodB n0 l0 e0 = true) (gb : H1.goodB n1 l1 e1 = false) :
    Calls Tryd.prog 12 #[.agg #[.bool n0, .slice A0 l0.length c0, .int .i64 e0], .agg #[.bool n1, .slice A1 l1.length c1, .int .i64 e1], .float .f64 f, .float .f64 g] w (Tells w (.bool true)) := by
  have TT := Ho.mk T
  have HO1 := Ho.mk (fun (W : World) (gw : Bel w W) => ofD (b := f) hf W (T.bel gw) (v := fv f) (ok := true) (by first | exact fin_of h1 | exact inf_of h1) (by first | exact (decide_eq_true h1).symm | exact (decide_eq_false h1).symm))
  have HO2 := Ho.mk (fun (W : World) (gw : Bel w W) => ofD (b := g) hg W (T.bel gw) (v := fv g) (ok := true) (fin_of h2) (decide_eq_true h2).symm)
  obtain ⟨q1, q2, q3, q4⟩ := ord_eq hf hg h1 h2 h3
  have HRF := Ho.mk q3
  have HBS := Ho.mk q4
  clear q3 q4
  obtain ⟨u1, hu1⟩ : ∃ u : Int, fv f = u := ⟨_, rfl⟩
  rw [hu1] at HO1 HRF HBS
  clear hu1
  obtain ⟨u2, hu2⟩ : ∃ u : Int, fv g = u := ⟨_, rfl⟩
  rw [hu2] at HO2 HRF HBS
  clear hu2
  have HGA := Ho.mk (fun (W : World) (gw : Bel w W) => goodT n0 A0 c0 l0 e0 W (hr0.bel gw) ga)
  have HGB := Ho.mk (fun (W : World) (gw : Bel w W) => goodT n1 A1 c1 l1 e1 W (hr1.bel gw) gb)
  clear T hf hg ga gb h1 h2 h3
  go_enter Tryd.func12, Tryd.ntmps12
  go_wp2_with fail
  have KB0 := Ho.mk ((Blk.new w [.bool n0, .slice A0 l0.length c0, .int .i64 e0] 24).old (.cells #[.bool n1, .slice A1 l1.length c1, .int .i64 e1] 24))
  have KB1 := Ho.mk (Blk.new (w.alloc (.cells #[.bool n0, .slice A0 l0.length c0, .int .i64 e0] 24)) [.bool n1, .slice A1 l1.length c1, .int .i64 e1] 24)
  have g0 := ((Bel.refl w).alloc (.cells #[.bool n0, .slice A0 l0.length c0, .int .i64 e0] 24)).alloc (.cells #[.bool n1, .slice A1 l1.length c1, .int .i64 e1] 24)
  rw [World.size_alloc] at KB1
  have hZ : ((w.alloc (.cells #[.bool n0, .slice A0 l0.length c0, .int .i64 e0] 24)).alloc (.cells #[.bool n1, .slice A1 l1.length c1, .int .i64 e1] 24)) = ((w.alloc (.cells #[.bool n0, .slice A0 l0.length c0, .int .i64 e0] 24)).alloc (.cells #[.bool n1, .slice A1 l1.length c1, .int .i64 e1] 24)) := rfl
  generalize ((w.alloc (.cells #[.bool n0, .slice A0 l0.length c0, .int .i64 e0] 24)).alloc (.cells #[.bool n1, .slice A1 l1.length c1, .int .i64 e1] 24)) = w0 at *
  clear hZ
  (with_reducible refine (headT _ (TT.out.bel (g0.trans (Bel.refl _)))).mono ?_); rintro e w1 ⟨rfl, b1⟩
  go_wp2_with fail
  (with_reducible refine (HO1.out _ (g0.trans ((Bel.refl _).trans b1))).mono ?_); rintro e w2 ⟨A2, c2, rfl, n2, b2⟩
  have KB10 := Ho.mk (Blk.new w2 [.bool (dneg u1), .slice A2 (digs (dm u1)).length c2, .int .i64 (de u1)] 24)
  go_wp2_with fail
  (with_reducible refine (HO2.out _ (g0.trans ((((Bel.refl _).trans b1).trans b2).alloc (.cells #[.bool (dneg u1), .slice A2 (digs (dm u1)).length c2, .int .i64 (de u1)] 24)))).mono ?_); rintro e w3 ⟨A3, c3, rfl, n3, b3⟩
  have KB12 := Ho.mk (Blk.new w3 [.bool (dneg u2), .slice A3 (digs (dm u2)).length c3, .int .i64 (de u2)] 24)
  have KB10_3x := Ho.mk ((KB10.out.bel (((Bel.refl _).trans b3).alloc (.cells #[.bool (dneg u2), .slice A3 (digs (dm u2)).length c3, .int .i64 (de u2)] 24))))
  have yB10_3x_0 := KB10_3x.out.cell (i := 0) rfl
  have yB10_3x_1 := KB10_3x.out.cell (i := 1) rfl
  have yB10_3x_2 := KB10_3x.out.cell (i := 2) rfl
  have KB12_3x := Ho.mk (KB12.out)
  have yB12_3x_0 := KB12_3x.out.cell (i := 0) rfl
  have yB12_3x_1 := KB12_3x.out.cell (i := 1) rfl
  have yB12_3x_2 := KB12_3x.out.cell (i := 2) rfl
  go_wp2_with fail
  (with_reducible refine (F1.rCmp (n2.bel ((((Bel.refl _).alloc (.cells #[.bool (dneg u1), .slice A2 (digs (dm u1)).length c2, .int .i64 (de u1)] 24)).trans b3).alloc (.cells #[.bool (dneg u2), .slice A3 (digs (dm u2)).length c3, .int .i64 (de u2)] 24))) (n3.bel ((Bel.refl _).alloc (.cells #[.bool (dneg u2), .slice A3 (digs (dm u2)).length c3, .int .i64 (de u2)] 24))) (by omega) (by omega) (r := 0) HRF.out).mono ?_); rintro e w4 ⟨rfl, b4⟩
  clear yB10_3x_0 yB10_3x_1 yB10_3x_2 yB12_3x_0 yB12_3x_1 yB12_3x_2
  have KB10_4 := Ho.mk ((KB10_3x.out.bel ((Bel.refl _).trans b4)))
  have yB10_4_0 := KB10_4.out.cell (i := 0) rfl
  have yB10_4_1 := KB10_4.out.cell (i := 1) rfl
  have yB10_4_2 := KB10_4.out.cell (i := 2) rfl
  have KB12_4 := Ho.mk ((KB12_3x.out.bel ((Bel.refl _).trans b4)))
  have yB12_4_0 := KB12_4.out.cell (i := 0) rfl
  have yB12_4_1 := KB12_4.out.cell (i := 1) rfl
  have yB12_4_2 := KB12_4.out.cell (i := 2) rfl
  go_wp2_with fail
  (with_reducible refine (F1.sameB (n2.bel (((((Bel.refl _).alloc (.cells #[.bool (dneg u1), .slice A2 (digs (dm u1)).length c2, .int .i64 (de u1)] 24)).trans b3).alloc (.cells #[.bool (dneg u2), .slice A3 (digs (dm u2)).length c3, .int .i64 (de u2)] 24)).trans b4)) (n3.bel (((Bel.refl _).alloc (.cells #[.bool (dneg u2), .slice A3 (digs (dm u2)).length c3, .int .i64 (de u2)] 24)).trans b4)) (b := true) HBS.out).mono ?_); rintro e w5 ⟨rfl, b5⟩
  clear yB10_4_0 yB10_4_1 yB10_4_2 yB12_4_0 yB12_4_1 yB12_4_2
  have KB4_5 := Ho.mk ((KB0.out.bel ((((((((Bel.refl _).trans b1).trans b2).alloc (.cells #[.bool (dneg u1), .slice A2 (digs (dm u1)).length c2, .int .i64 (de u1)] 24)).trans b3).alloc (.cells #[.bool (dneg u2), .slice A3 (digs (dm u2)).length c3, .int .i64 (de u2)] 24)).trans b4).trans b5)))
  have yB4_5_0 := KB4_5.out.cell (i := 0) rfl
  have yB4_5_1 := KB4_5.out.cell (i := 1) rfl
  have yB4_5_2 := KB4_5.out.cell (i := 2) rfl
  go_wp2_with fail
  (with_reducible refine ((HGA.out _ (g0.trans ((((((((Bel.refl _).trans b1).trans b2).alloc (.cells #[.bool (dneg u1), .slice A2 (digs (dm u1)).length c2, .int .i64 (de u1)] 24)).trans b3).alloc (.cells #[.bool (dneg u2), .slice A3 (digs (dm u2)).length c3, .int .i64 (de u2)] 24)).trans b4).trans b5)))).mono ?_); rintro e w6 ⟨rfl, b6⟩
  clear yB4_5_0 yB4_5_1 yB4_5_2
  have KB5_6 := Ho.mk ((KB1.out.bel (((((((((Bel.refl _).trans b1).trans b2).alloc (.cells #[.bool (dneg u1), .slice A2 (digs (dm u1)).length c2, .int .i64 (de u1)] 24)).trans b3).alloc (.cells #[.bool (dneg u2), .slice A3 (digs (dm u2)).length c3, .int .i64 (de u2)] 24)).trans b4).trans b5).trans b6)))
  have yB5_6_0 := KB5_6.out.cell (i := 0) rfl
  have yB5_6_1 := KB5_6.out.cell (i := 1) rfl
  have yB5_6_2 := KB5_6.out.cell (i := 2) rfl
  go_wp2_with fail
  (with_reducible refine ((HGB.out _ (g0.trans (((((((((Bel.refl _).trans b1).trans b2).alloc (.cells #[.bool (dneg u1), .slice A2 (digs (dm u1)).length c2, .int .i64 (de u1)] 24)).trans b3).alloc (.cells #[.bool (dneg u2), .slice A3 (digs (dm u2)).length c3, .int .i64 (de u2)] 24)).trans b4).trans b5).trans b6)))).mono ?_); rintro e w7 ⟨rfl, b7⟩
  clear yB5_6_0 yB5_6_1 yB5_6_2
  all_goals
    have HE := Ho.mk (g0.trans ((((((((((Bel.refl _).trans b1).trans b2).alloc (.cells #[.bool (dneg u1), .slice A2 (digs (dm u1)).length c2, .int .i64 (de u1)] 24)).trans b3).alloc (.cells #[.bool (dneg u2), .slice A3 (digs (dm u2)).length c3, .int .i64 (de u2)] 24)).trans b4).trans b5).trans b6).trans b7))
    go_wp2
    go_ret
    exact ⟨rfl, HE.out⟩
set_option maxRecDepth 100000 in
set_option maxHeartbeats 8000000 in
theorem order_eq_gr {A0 : Option Addr} {c0 : Nat} {v0 : Int} {A1 : Option Addr} {c1 : Nat} {v1 : Int} {f g : Nat} (w : World) (T : Tab w) (p0 : Dv w A0 c0 v0 3000 3480) (p1 : Dv w A1 c1 v1 3000 3480) (hf : f < 2 * sgnW) (hg : g < 2 * sgnW) (h1 : frung f < infR) (h2 : frung g < infR) (h3 : V f = V g) (ga : H1.goodB (dneg v0) (digs (dm v0)) (de v0) = true) (gb : H1.goodB (dneg v1) (digs (dm v1)) (de v1) = true) (h4 : v1 < v0) :
    Calls Tryd.prog 12 #[.agg #[.bool (dneg v0), .slice A0 (digs (dm v0)).length c0, .int .i64 (de v0)], .agg #[.bool (dneg v1), .slice A1 (digs (dm v1)).length c1, .int .i64 (de v1)], .float .f64 f, .float .f64 g] w (Tells w (.bool true)) := by
  have TT := Ho.mk T
  have HO1 := Ho.mk (fun (W : World) (gw : Bel w W) => ofD (b := f) hf W (T.bel gw) (v := fv f) (ok := true) (by first | exact fin_of h1 | exact inf_of h1) (by first | exact (decide_eq_true h1).symm | exact (decide_eq_false h1).symm))
  have HO2 := Ho.mk (fun (W : World) (gw : Bel w W) => ofD (b := g) hg W (T.bel gw) (v := fv g) (ok := true) (fin_of h2) (decide_eq_true h2).symm)
  obtain ⟨q1, q2, q3, q4⟩ := ord_eq hf hg h1 h2 h3
  have HRF := Ho.mk q3
  have HBS := Ho.mk q4
  clear q3 q4
  obtain ⟨u1, hu1⟩ : ∃ u : Int, fv f = u := ⟨_, rfl⟩
  rw [hu1] at HO1 HRF HBS
  clear hu1
  obtain ⟨u2, hu2⟩ : ∃ u : Int, fv g = u := ⟨_, rfl⟩
  rw [hu2] at HO2 HRF HBS
  clear hu2
  have HGA := Ho.mk (fun (W : World) (gw : Bel w W) => goodT (dneg v0) A0 c0 (digs (dm v0)) (de v0) W (p0.rd.bel gw) ga)
  have HGB := Ho.mk (fun (W : World) (gw : Bel w W) => goodT (dneg v1) A1 c1 (digs (dm v1)) (de v1) W (p1.rd.bel gw) gb)
  obtain ⟨rd, hrd⟩ : ∃ r, cmpI v0 v1 = r := ⟨_, rfl⟩
  have d1 : decide (0 < rd) = true := decide_eq_true (by rw [← hrd, cmpI_gt h4]; decide)
  have HRD := Ho.mk hrd
  clear hrd
  have cng := near_neg v0
  obtain ⟨na, hna⟩ : ∃ n, nw v0 = n := ⟨_, rfl⟩
  obtain ⟨nb, hnb⟩ : ∃ n, nw v1 = n := ⟨_, rfl⟩
  obtain ⟨nc, hnc⟩ : ∃ n, nw (-v0) = n := ⟨_, rfl⟩
  rw [hna, hnc] at cng
  have hng := fun (W : World) => G9.run_neg na W
  generalize Op.negFloat .f64 na = nd at *
  have HNA := Ho.mk hna
  have HNB := Ho.mk hnb
  have HNC := Ho.mk hnc
  clear hna hnb hnc
  clear T hf hg ga gb h1 h2 h3 h4
  go_enter Tryd.func12, Tryd.ntmps12
  go_wp2_with fail
  have KB0 := Ho.mk ((Blk.new w [.bool (dneg v0), .slice A0 (digs (dm v0)).length c0, .int .i64 (de v0)] 24).old (.cells #[.bool (dneg v1), .slice A1 (digs (dm v1)).length c1, .int .i64 (de v1)] 24))
  have KB1 := Ho.mk (Blk.new (w.alloc (.cells #[.bool (dneg v0), .slice A0 (digs (dm v0)).length c0, .int .i64 (de v0)] 24)) [.bool (dneg v1), .slice A1 (digs (dm v1)).length c1, .int .i64 (de v1)] 24)
  have g0 := ((Bel.refl w).alloc (.cells #[.bool (dneg v0), .slice A0 (digs (dm v0)).length c0, .int .i64 (de v0)] 24)).alloc (.cells #[.bool (dneg v1), .slice A1 (digs (dm v1)).length c1, .int .i64 (de v1)] 24)
  rw [World.size_alloc] at KB1
  have hZ : ((w.alloc (.cells #[.bool (dneg v0), .slice A0 (digs (dm v0)).length c0, .int .i64 (de v0)] 24)).alloc (.cells #[.bool (dneg v1), .slice A1 (digs (dm v1)).length c1, .int .i64 (de v1)] 24)) = ((w.alloc (.cells #[.bool (dneg v0), .slice A0 (digs (dm v0)).length c0, .int .i64 (de v0)] 24)).alloc (.cells #[.bool (dneg v1), .slice A1 (digs (dm v1)).length c1, .int .i64 (de v1)] 24)) := rfl
  generalize ((w.alloc (.cells #[.bool (dneg v0), .slice A0 (digs (dm v0)).length c0, .int .i64 (de v0)] 24)).alloc (.cells #[.bool (dneg v1), .slice A1 (digs (dm v1)).length c1, .int .i64 (de v1)] 24)) = w0 at *
  clear hZ
  (with_reducible refine (headT _ (TT.out.bel (g0.trans (Bel.refl _)))).mono ?_); rintro e w1 ⟨rfl, b1⟩
  go_wp2_with fail
  (with_reducible refine (HO1.out _ (g0.trans ((Bel.refl _).trans b1))).mono ?_); rintro e w2 ⟨A2, c2, rfl, n2, b2⟩
  have KB10 := Ho.mk (Blk.new w2 [.bool (dneg u1), .slice A2 (digs (dm u1)).length c2, .int .i64 (de u1)] 24)
  go_wp2_with fail
  (with_reducible refine (HO2.out _ (g0.trans ((((Bel.refl _).trans b1).trans b2).alloc (.cells #[.bool (dneg u1), .slice A2 (digs (dm u1)).length c2, .int .i64 (de u1)] 24)))).mono ?_); rintro e w3 ⟨A3, c3, rfl, n3, b3⟩
  have KB12 := Ho.mk (Blk.new w3 [.bool (dneg u2), .slice A3 (digs (dm u2)).length c3, .int .i64 (de u2)] 24)
  have KB10_3x := Ho.mk ((KB10.out.bel (((Bel.refl _).trans b3).alloc (.cells #[.bool (dneg u2), .slice A3 (digs (dm u2)).length c3, .int .i64 (de u2)] 24))))
  have yB10_3x_0 := KB10_3x.out.cell (i := 0) rfl
  have yB10_3x_1 := KB10_3x.out.cell (i := 1) rfl
  have yB10_3x_2 := KB10_3x.out.cell (i := 2) rfl
  have KB12_3x := Ho.mk (KB12.out)
  have yB12_3x_0 := KB12_3x.out.cell (i := 0) rfl
  have yB12_3x_1 := KB12_3x.out.cell (i := 1) rfl
  have yB12_3x_2 := KB12_3x.out.cell (i := 2) rfl
  go_wp2_with fail
  (with_reducible refine (F1.rCmp (n2.bel ((((Bel.refl _).alloc (.cells #[.bool (dneg u1), .slice A2 (digs (dm u1)).length c2, .int .i64 (de u1)] 24)).trans b3).alloc (.cells #[.bool (dneg u2), .slice A3 (digs (dm u2)).length c3, .int .i64 (de u2)] 24))) (n3.bel ((Bel.refl _).alloc (.cells #[.bool (dneg u2), .slice A3 (digs (dm u2)).length c3, .int .i64 (de u2)] 24))) (by omega) (by omega) (r := 0) HRF.out).mono ?_); rintro e w4 ⟨rfl, b4⟩
  clear yB10_3x_0 yB10_3x_1 yB10_3x_2 yB12_3x_0 yB12_3x_1 yB12_3x_2
  have KB10_4 := Ho.mk ((KB10_3x.out.bel ((Bel.refl _).trans b4)))
  have yB10_4_0 := KB10_4.out.cell (i := 0) rfl
  have yB10_4_1 := KB10_4.out.cell (i := 1) rfl
  have yB10_4_2 := KB10_4.out.cell (i := 2) rfl
  have KB12_4 := Ho.mk ((KB12_3x.out.bel ((Bel.refl _).trans b4)))
  have yB12_4_0 := KB12_4.out.cell (i := 0) rfl
  have yB12_4_1 := KB12_4.out.cell (i := 1) rfl
  have yB12_4_2 := KB12_4.out.cell (i := 2) rfl
  go_wp2_with fail
  (with_reducible refine (F1.sameB (n2.bel (((((Bel.refl _).alloc (.cells #[.bool (dneg u1), .slice A2 (digs (dm u1)).length c2, .int .i64 (de u1)] 24)).trans b3).alloc (.cells #[.bool (dneg u2), .slice A3 (digs (dm u2)).length c3, .int .i64 (de u2)] 24)).trans b4)) (n3.bel (((Bel.refl _).alloc (.cells #[.bool (dneg u2), .slice A3 (digs (dm u2)).length c3, .int .i64 (de u2)] 24)).trans b4)) (b := true) HBS.out).mono ?_); rintro e w5 ⟨rfl, b5⟩
  clear yB10_4_0 yB10_4_1 yB10_4_2 yB12_4_0 yB12_4_1 yB12_4_2
  have KB4_5 := Ho.mk ((KB0.out.bel ((((((((Bel.refl _).trans b1).trans b2).alloc (.cells #[.bool (dneg u1), .slice A2 (digs (dm u1)).length c2, .int .i64 (de u1)] 24)).trans b3).alloc (.cells #[.bool (dneg u2), .slice A3 (digs (dm u2)).length c3, .int .i64 (de u2)] 24)).trans b4).trans b5)))
  have yB4_5_0 := KB4_5.out.cell (i := 0) rfl
  have yB4_5_1 := KB4_5.out.cell (i := 1) rfl
  have yB4_5_2 := KB4_5.out.cell (i := 2) rfl
  go_wp2_with fail
  (with_reducible refine ((HGA.out _ (g0.trans ((((((((Bel.refl _).trans b1).trans b2).alloc (.cells #[.bool (dneg u1), .slice A2 (digs (dm u1)).length c2, .int .i64 (de u1)] 24)).trans b3).alloc (.cells #[.bool (dneg u2), .slice A3 (digs (dm u2)).length c3, .int .i64 (de u2)] 24)).trans b4).trans b5)))).mono ?_); rintro e w6 ⟨rfl, b6⟩
  clear yB4_5_0 yB4_5_1 yB4_5_2
  have KB5_6 := Ho.mk ((KB1.out.bel (((((((((Bel.refl _).trans b1).trans b2).alloc (.cells #[.bool (dneg u1), .slice A2 (digs (dm u1)).length c2, .int .i64 (de u1)] 24)).trans b3).alloc (.cells #[.bool (dneg u2), .slice A3 (digs (dm u2)).length c3, .int .i64 (de u2)] 24)).trans b4).trans b5).trans b6)))
  have yB5_6_0 := KB5_6.out.cell (i := 0) rfl
  have yB5_6_1 := KB5_6.out.cell (i := 1) rfl
  have yB5_6_2 := KB5_6.out.cell (i := 2) rfl
  go_wp2_with fail
  (with_reducible refine ((HGB.out _ (g0.trans (((((((((Bel.refl _).trans b1).trans b2).alloc (.cells #[.bool (dneg u1), .slice A2 (digs (dm u1)).length c2, .int .i64 (de u1)] 24)).trans b3).alloc (.cells #[.bool (dneg u2), .slice A3 (digs (dm u2)).length c3, .int .i64 (de u2)] 24)).trans b4).trans b5).trans b6)))).mono ?_); rintro e w7 ⟨rfl, b7⟩
  clear yB5_6_0 yB5_6_1 yB5_6_2
  go_wp2_with fail
  have KB4_r8 := Ho.mk ((KB4_5.out.bel (((Bel.refl _).trans b6).trans b7)))
  have yB4_r8_0 := KB4_r8.out.cell (i := 0) rfl
  have yB4_r8_1 := KB4_r8.out.cell (i := 1) rfl
  have yB4_r8_2 := KB4_r8.out.cell (i := 2) rfl
  have KB5_r8 := Ho.mk ((KB5_6.out.bel ((Bel.refl _).trans b7)))
  have yB5_r8_0 := KB5_r8.out.cell (i := 0) rfl
  have yB5_r8_1 := KB5_r8.out.cell (i := 1) rfl
  have yB5_r8_2 := KB5_r8.out.cell (i := 2) rfl
  refine wp_region_held_drew (S := fun w' => Bel w7 w') (by kernel_rfl) (Bel.refl _).drew (fun hHeld => ?_)
  (try dsimp only at hHeld)
  refine r_take (i := 0) (v := ?_) rfl (by kernel_rfl) (by kernel_rfl) (by kernel_rfl) (fun _ _ _ h => h) (by kernel_rfl) hHeld ?_ ?_
  rotate_left
  · (intro w hSw; go_simp; try (with_reducible rfl))
  try simp only [Act.put, List.setIfInBounds_toArray, List.set_cons_zero, List.set_cons_succ]
  refine r_take (i := 1) (v := ?_) rfl (by kernel_rfl) (by kernel_rfl) (by kernel_rfl) (fun _ _ _ h => h) (by kernel_rfl) hHeld ?_ ?_
  rotate_left
  · (intro w hSw; go_simp; try (with_reducible rfl))
  try simp only [Act.put, List.setIfInBounds_toArray, List.set_cons_zero, List.set_cons_succ]
  refine r_take (i := 2) (v := ?_) rfl (by kernel_rfl) (by kernel_rfl) (by kernel_rfl) (fun _ _ _ h => h) (by kernel_rfl) hHeld ?_ ?_
  rotate_left
  · (intro w hSw; have z0 := Bel.cell hSw yB4_r8_0; have z1 := Bel.cell hSw yB4_r8_1; have z2 := Bel.cell hSw yB4_r8_2; go_simp; try (with_reducible rfl))
  try simp only [Act.put, List.setIfInBounds_toArray, List.set_cons_zero, List.set_cons_succ]
  refine r_take (i := 3) (v := ?_) rfl (by kernel_rfl) (by kernel_rfl) (by kernel_rfl) (fun _ _ _ h => h) (by kernel_rfl) hHeld ?_ ?_
  rotate_left
  · (intro w hSw; have z0 := Bel.cell hSw yB5_r8_0; have z1 := Bel.cell hSw yB5_r8_1; have z2 := Bel.cell hSw yB5_r8_2; go_simp; try (with_reducible rfl))
  try simp only [Act.put, List.setIfInBounds_toArray, List.set_cons_zero, List.set_cons_succ]
  refine r_call (i := 4) (by kernel_rfl) rfl (by kernel_rfl) (fun K hK => ?_)
  go_simp
  go_at_call 25
  (with_reducible refine (F1.rCmp ((p0.bel g0).bel (((((((((((Bel.refl _).trans b1).trans b2).alloc (.cells #[.bool (dneg u1), .slice A2 (digs (dm u1)).length c2, .int .i64 (de u1)] 24)).trans b3).alloc (.cells #[.bool (dneg u2), .slice A3 (digs (dm u2)).length c3, .int .i64 (de u2)] 24)).trans b4).trans b5).trans b6).trans b7).drew)) ((p1.bel g0).bel (((((((((((Bel.refl _).trans b1).trans b2).alloc (.cells #[.bool (dneg u1), .slice A2 (digs (dm u1)).length c2, .int .i64 (de u1)] 24)).trans b3).alloc (.cells #[.bool (dneg u2), .slice A3 (digs (dm u2)).length c3, .int .i64 (de u2)] 24)).trans b4).trans b5).trans b6).trans b7).drew)) (by omega) (by omega) (r := rd) HRD.out).mono ?_); rintro e w8 ⟨rfl, b8⟩
  try go_wp2_with fail
  refine hK.out _ _ (Bel.trans hHeld b8) (fun hHeld => ?_)
  clear hK K
  try simp only [Act.put, List.setIfInBounds_toArray, List.set_cons_zero, List.set_cons_succ]
  refine r_take (i := 5) (v := ?_) rfl (by kernel_rfl) (by kernel_rfl) (by kernel_rfl) (fun _ _ _ h => h) (by kernel_rfl) hHeld ?_ ?_
  rotate_left
  · (intro w hSw; go_simp; try (with_reducible rfl))
  try simp only [Act.put, List.setIfInBounds_toArray, List.set_cons_zero, List.set_cons_succ]
  refine r_take (i := 6) (v := ?_) rfl (by kernel_rfl) (by kernel_rfl) (by kernel_rfl) (fun _ _ _ h => h) (by kernel_rfl) hHeld ?_ ?_
  rotate_left
  · (intro w hSw; go_simp; try (with_reducible rfl))
  try simp only [Act.put, List.setIfInBounds_toArray, List.set_cons_zero, List.set_cons_succ]
  refine r_not (i := 7) rfl (by kernel_rfl) (by kernel_rfl) (by kernel_rfl) (fun _ _ _ h => h) (by kernel_rfl) hHeld ?_
  try simp only [Act.put, List.setIfInBounds_toArray, List.set_cons_zero, List.set_cons_succ]
  refine r_not (i := 8) rfl (by kernel_rfl) (by kernel_rfl) (by kernel_rfl) (fun _ _ _ h => h) (by kernel_rfl) hHeld ?_
  try simp only [Act.put, List.setIfInBounds_toArray, List.set_cons_zero, List.set_cons_succ]
  refine r_not (i := 9) rfl (by kernel_rfl) (by kernel_rfl) (by kernel_rfl) (fun _ _ _ h => h) (by kernel_rfl) hHeld ?_
  try simp only [Act.put, List.setIfInBounds_toArray, List.set_cons_zero, List.set_cons_succ]
  refine r_not (i := 10) rfl (by kernel_rfl) (by kernel_rfl) (by kernel_rfl) (fun _ _ _ h => h) (by kernel_rfl) hHeld ?_
  try simp only [Act.put, List.setIfInBounds_toArray, List.set_cons_zero, List.set_cons_succ]
  refine r_not (i := 11) rfl (by kernel_rfl) (by kernel_rfl) (by kernel_rfl) (fun _ _ _ h => h) (by kernel_rfl) hHeld ?_
  try simp only [Act.put, List.setIfInBounds_toArray, List.set_cons_zero, List.set_cons_succ]
  refine r_take (i := 12) (v := ?_) rfl (by kernel_rfl) (by kernel_rfl) (by kernel_rfl) (fun _ _ _ h => h) (by kernel_rfl) hHeld ?_ ?_
  rotate_left
  · (intro w hSw; go_simp; try (with_reducible rfl))
  try simp only [Act.put, List.setIfInBounds_toArray, List.set_cons_zero, List.set_cons_succ]
  refine r_take (i := 13) (v := ?_) rfl (by kernel_rfl) (by kernel_rfl) (by kernel_rfl) (fun _ _ _ h => h) (by kernel_rfl) hHeld ?_ ?_
  rotate_left
  · (intro w hSw; go_simp; try (with_reducible rfl))
  try simp only [Act.put, List.setIfInBounds_toArray, List.set_cons_zero, List.set_cons_succ]
  refine r_take (i := 14) (v := ?_) rfl (by kernel_rfl) (by kernel_rfl) (by kernel_rfl) (fun _ _ _ h => h) (by kernel_rfl) hHeld ?_ ?_
  rotate_left
  · (intro w hSw; go_simp; try (with_reducible rfl))
  try simp only [Act.put, List.setIfInBounds_toArray, List.set_cons_zero, List.set_cons_succ]
  refine r_take (i := 15) (v := ?_) rfl (by kernel_rfl) (by kernel_rfl) (by kernel_rfl) (fun _ _ _ h => h) (by kernel_rfl) hHeld ?_ ?_
  rotate_left
  · (intro w hSw; have z0 := Bel.cell hSw yB4_r8_0; have z1 := Bel.cell hSw yB4_r8_1; have z2 := Bel.cell hSw yB4_r8_2; go_simp; try (with_reducible rfl))
  try simp only [Act.put, List.setIfInBounds_toArray, List.set_cons_zero, List.set_cons_succ]
  refine r_take (i := 18) (v := ?_) rfl (by kernel_rfl) (by kernel_rfl) (by kernel_rfl) (fun _ _ _ h => h) (by kernel_rfl) hHeld ?_ ?_
  rotate_left
  · (intro w hSw; have z0 := Bel.cell hSw yB4_r8_0; have z1 := Bel.cell hSw yB4_r8_1; have z2 := Bel.cell hSw yB4_r8_2; go_simp; try (with_reducible rfl))
  try simp only [Act.put, List.setIfInBounds_toArray, List.set_cons_zero, List.set_cons_succ]
  refine r_call (i := 16) (by kernel_rfl) rfl (by kernel_rfl) (fun K hK => ?_)
  go_simp
  go_at_call 29
  (with_reducible refine (F1.rFlip ((p0.bel g0).bel ((((((((((((Bel.refl _).trans b1).trans b2).alloc (.cells #[.bool (dneg u1), .slice A2 (digs (dm u1)).length c2, .int .i64 (de u1)] 24)).trans b3).alloc (.cells #[.bool (dneg u2), .slice A3 (digs (dm u2)).length c3, .int .i64 (de u2)] 24)).trans b4).trans b5).trans b6).trans b7).drew).trans b8))).mono ?_); rintro e w9 ⟨A9, c9, rfl, n9, b9⟩
  try go_wp2_with fail
  refine hK.out _ _ (Bel.trans hHeld b9) (fun hHeld => ?_)
  clear hK K
  try simp only [Act.put, List.setIfInBounds_toArray, List.set_cons_zero, List.set_cons_succ]
  refine r_call (i := 17) (by kernel_rfl) rfl (by kernel_rfl) (fun K hK => ?_)
  go_simp
  go_at_call 47
  (with_reducible refine (nearD n9 (by omega) (by omega) (r := nc) HNC.out).mono ?_); rintro e w10 ⟨rfl, b10⟩
  try go_wp2_with fail
  refine hK.out _ _ (Bel.trans hHeld b10) (fun hHeld => ?_)
  clear hK K
  try simp only [Act.put, List.setIfInBounds_toArray, List.set_cons_zero, List.set_cons_succ]
  refine r_call (i := 19) (by kernel_rfl) rfl (by kernel_rfl) (fun K hK => ?_)
  go_simp
  go_at_call 47
  (with_reducible refine (nearD ((p0.bel g0).bel ((((((((((((((Bel.refl _).trans b1).trans b2).alloc (.cells #[.bool (dneg u1), .slice A2 (digs (dm u1)).length c2, .int .i64 (de u1)] 24)).trans b3).alloc (.cells #[.bool (dneg u2), .slice A3 (digs (dm u2)).length c3, .int .i64 (de u2)] 24)).trans b4).trans b5).trans b6).trans b7).drew).trans b8).trans b9).trans b10)) (by omega) (by omega) (r := na) HNA.out).mono ?_); rintro e w11 ⟨rfl, b11⟩
  try go_wp2_with fail
  refine hK.out _ _ (Bel.trans hHeld b11) (fun hHeld => ?_)
  clear hK K
  try simp only [Act.put, List.setIfInBounds_toArray, List.set_cons_zero, List.set_cons_succ]
  refine r_take (i := 20) (v := ?_) rfl (by kernel_rfl) (by kernel_rfl) (by kernel_rfl) (fun _ _ _ h => h) (by kernel_rfl) hHeld ?_ ?_
  rotate_left
  · (intro w hSw; go_simp; try (with_reducible rfl))
  try simp only [Act.put, List.setIfInBounds_toArray, List.set_cons_zero, List.set_cons_succ]
  refine r_take (i := 21) (v := ?_) rfl (by kernel_rfl) (by kernel_rfl) (by kernel_rfl) (fun _ _ _ h => h) (by kernel_rfl) hHeld ?_ ?_
  rotate_left
  · (intro w hSw; go_simp; try (with_reducible rfl))
  try simp only [Act.put, List.setIfInBounds_toArray, List.set_cons_zero, List.set_cons_succ]
  refine r_take (i := 22) (v := ?_) rfl (by kernel_rfl) (by kernel_rfl) (by kernel_rfl) (fun _ _ _ h => h) (by kernel_rfl) hHeld ?_ ?_
  rotate_left
  · (intro w hSw; go_simp; try (with_reducible rfl))
  try simp only [Act.put, List.setIfInBounds_toArray, List.set_cons_zero, List.set_cons_succ]
  refine r_take (i := 23) (v := ?_) rfl (by kernel_rfl) (by kernel_rfl) (by kernel_rfl) (fun _ _ _ h => h) (by kernel_rfl) hHeld ?_ ?_
  rotate_left
  · (intro w hSw; go_simp; try (with_reducible rfl))
  try simp only [Act.put, List.setIfInBounds_toArray, List.set_cons_zero, List.set_cons_succ]
  refine wpAnyH_done (by kernel_rfl) ?_ _
  all_goals
    have HE := Ho.mk (g0.trans (((((((((((((((Bel.refl _).trans b1).trans b2).alloc (.cells #[.bool (dneg u1), .slice A2 (digs (dm u1)).length c2, .int .i64 (de u1)] 24)).trans b3).alloc (.cells #[.bool (dneg u2), .slice A3 (digs (dm u2)).length c3, .int .i64 (de u2)] 24)).trans b4).trans b5).trans b6).trans b7).drew).trans b8).trans b9).trans b10).trans b11))
    go_wp2
    go_ret
    exact ⟨rfl, HE.out⟩
set_option maxRecDepth 100000 in
set_option maxHeartbeats 8000000 in
theorem order_eq_le {A0 : Option Addr} {c0 : Nat} {v0 : Int} {A1 : Option Addr} {c1 : Nat} {v1 : Int} {f g : Nat} (w : World) (T : Tab w) (p0 : Dv w A0 c0 v0 3000 3480) (p1 : Dv w A1 c1 v1 3000 3480) (hf : f < 2 * sgnW) (hg : g < 2 * sgnW) (h1 : frung f < infR) (h2 : frung g < infR) (h3 : V f = V g) (ga : H1.goodB (dneg v0) (digs (dm v0)) (de v0) = true) (gb : H1.goodB (dneg v1) (digs (dm v1)) (de v1) = true) (h4 : v0 ≤ v1) :
    Calls Tryd.prog 12 #[.agg #[.bool (dneg v0), .slice A0 (digs (dm v0)).length c0, .int .i64 (de v0)], .agg #[.bool (dneg v1), .slice A1 (digs (dm v1)).length c1, .int .i64 (de v1)], .float .f64 f, .float .f64 g] w (Tells w (.bool true)) := by
  have TT := Ho.mk T
  have HO1 := Ho.mk (fun (W : World) (gw : Bel w W) => ofD (b := f) hf W (T.bel gw) (v := fv f) (ok := true) (by first | exact fin_of h1 | exact inf_of h1) (by first | exact (decide_eq_true h1).symm | exact (decide_eq_false h1).symm))
  have HO2 := Ho.mk (fun (W : World) (gw : Bel w W) => ofD (b := g) hg W (T.bel gw) (v := fv g) (ok := true) (fin_of h2) (decide_eq_true h2).symm)
  obtain ⟨q1, q2, q3, q4⟩ := ord_eq hf hg h1 h2 h3
  have HRF := Ho.mk q3
  have HBS := Ho.mk q4
  clear q3 q4
  obtain ⟨u1, hu1⟩ : ∃ u : Int, fv f = u := ⟨_, rfl⟩
  rw [hu1] at HO1 HRF HBS
  clear hu1
  obtain ⟨u2, hu2⟩ : ∃ u : Int, fv g = u := ⟨_, rfl⟩
  rw [hu2] at HO2 HRF HBS
  clear hu2
  have HGA := Ho.mk (fun (W : World) (gw : Bel w W) => goodT (dneg v0) A0 c0 (digs (dm v0)) (de v0) W (p0.rd.bel gw) ga)
  have HGB := Ho.mk (fun (W : World) (gw : Bel w W) => goodT (dneg v1) A1 c1 (digs (dm v1)) (de v1) W (p1.rd.bel gw) gb)
  obtain ⟨rd, hrd⟩ : ∃ r, cmpI v0 v1 = r := ⟨_, rfl⟩
  have hrd0 : rd ≤ 0 := by rw [← hrd]; unfold cmpI; split <;> (try split) <;> omega
  have d1 : decide (0 < rd) = false := decide_eq_false (by omega)
  have HRD := Ho.mk hrd
  have cle := near_le h4
  clear hrd
  have cng := near_neg v0
  obtain ⟨na, hna⟩ : ∃ n, nw v0 = n := ⟨_, rfl⟩
  obtain ⟨nb, hnb⟩ : ∃ n, nw v1 = n := ⟨_, rfl⟩
  obtain ⟨nc, hnc⟩ : ∃ n, nw (-v0) = n := ⟨_, rfl⟩
  rw [hna, hnc] at cng
  rw [hna, hnb] at cle
  have hng := fun (W : World) => G9.run_neg na W
  generalize Op.negFloat .f64 na = nd at *
  have HNA := Ho.mk hna
  have HNB := Ho.mk hnb
  have HNC := Ho.mk hnc
  clear hna hnb hnc
  clear T hf hg ga gb h1 h2 h3 h4
  go_enter Tryd.func12, Tryd.ntmps12
  go_wp2_with fail
  have KB0 := Ho.mk ((Blk.new w [.bool (dneg v0), .slice A0 (digs (dm v0)).length c0, .int .i64 (de v0)] 24).old (.cells #[.bool (dneg v1), .slice A1 (digs (dm v1)).length c1, .int .i64 (de v1)] 24))
  have KB1 := Ho.mk (Blk.new (w.alloc (.cells #[.bool (dneg v0), .slice A0 (digs (dm v0)).length c0, .int .i64 (de v0)] 24)) [.bool (dneg v1), .slice A1 (digs (dm v1)).length c1, .int .i64 (de v1)] 24)
  have g0 := ((Bel.refl w).alloc (.cells #[.bool (dneg v0), .slice A0 (digs (dm v0)).length c0, .int .i64 (de v0)] 24)).alloc (.cells #[.bool (dneg v1), .slice A1 (digs (dm v1)).length c1, .int .i64 (de v1)] 24)
  rw [World.size_alloc] at KB1
  have hZ : ((w.alloc (.cells #[.bool (dneg v0), .slice A0 (digs (dm v0)).length c0, .int .i64 (de v0)] 24)).alloc (.cells #[.bool (dneg v1), .slice A1 (digs (dm v1)).length c1, .int .i64 (de v1)] 24)) = ((w.alloc (.cells #[.bool (dneg v0), .slice A0 (digs (dm v0)).length c0, .int .i64 (de v0)] 24)).alloc (.cells #[.bool (dneg v1), .slice A1 (digs (dm v1)).length c1, .int .i64 (de v1)] 24)) := rfl
  generalize ((w.alloc (.cells #[.bool (dneg v0), .slice A0 (digs (dm v0)).length c0, .int .i64 (de v0)] 24)).alloc (.cells #[.bool (dneg v1), .slice A1 (digs (dm v1)).length c1, .int .i64 (de v1)] 24)) = w0 at *
  clear hZ
  (with_reducible refine (headT _ (TT.out.bel (g0.trans (Bel.refl _)))).mono ?_); rintro e w1 ⟨rfl, b1⟩
  go_wp2_with fail
  (with_reducible refine (HO1.out _ (g0.trans ((Bel.refl _).trans b1))).mono ?_); rintro e w2 ⟨A2, c2, rfl, n2, b2⟩
  have KB10 := Ho.mk (Blk.new w2 [.bool (dneg u1), .slice A2 (digs (dm u1)).length c2, .int .i64 (de u1)] 24)
  go_wp2_with fail
  (with_reducible refine (HO2.out _ (g0.trans ((((Bel.refl _).trans b1).trans b2).alloc (.cells #[.bool (dneg u1), .slice A2 (digs (dm u1)).length c2, .int .i64 (de u1)] 24)))).mono ?_); rintro e w3 ⟨A3, c3, rfl, n3, b3⟩
  have KB12 := Ho.mk (Blk.new w3 [.bool (dneg u2), .slice A3 (digs (dm u2)).length c3, .int .i64 (de u2)] 24)
  have KB10_3x := Ho.mk ((KB10.out.bel (((Bel.refl _).trans b3).alloc (.cells #[.bool (dneg u2), .slice A3 (digs (dm u2)).length c3, .int .i64 (de u2)] 24))))
  have yB10_3x_0 := KB10_3x.out.cell (i := 0) rfl
  have yB10_3x_1 := KB10_3x.out.cell (i := 1) rfl
  have yB10_3x_2 := KB10_3x.out.cell (i := 2) rfl
  have KB12_3x := Ho.mk (KB12.out)
  have yB12_3x_0 := KB12_3x.out.cell (i := 0) rfl
  have yB12_3x_1 := KB12_3x.out.cell (i := 1) rfl
  have yB12_3x_2 := KB12_3x.out.cell (i := 2) rfl
  go_wp2_with fail
  (with_reducible refine (F1.rCmp (n2.bel ((((Bel.refl _).alloc (.cells #[.bool (dneg u1), .slice A2 (digs (dm u1)).length c2, .int .i64 (de u1)] 24)).trans b3).alloc (.cells #[.bool (dneg u2), .slice A3 (digs (dm u2)).length c3, .int .i64 (de u2)] 24))) (n3.bel ((Bel.refl _).alloc (.cells #[.bool (dneg u2), .slice A3 (digs (dm u2)).length c3, .int .i64 (de u2)] 24))) (by omega) (by omega) (r := 0) HRF.out).mono ?_); rintro e w4 ⟨rfl, b4⟩
  clear yB10_3x_0 yB10_3x_1 yB10_3x_2 yB12_3x_0 yB12_3x_1 yB12_3x_2
  have KB10_4 := Ho.mk ((KB10_3x.out.bel ((Bel.refl _).trans b4)))
  have yB10_4_0 := KB10_4.out.cell (i := 0) rfl
  have yB10_4_1 := KB10_4.out.cell (i := 1) rfl
  have yB10_4_2 := KB10_4.out.cell (i := 2) rfl
  have KB12_4 := Ho.mk ((KB12_3x.out.bel ((Bel.refl _).trans b4)))
  have yB12_4_0 := KB12_4.out.cell (i := 0) rfl
  have yB12_4_1 := KB12_4.out.cell (i := 1) rfl
  have yB12_4_2 := KB12_4.out.cell (i := 2) rfl
  go_wp2_with fail
  (with_reducible refine (F1.sameB (n2.bel (((((Bel.refl _).alloc (.cells #[.bool (dneg u1), .slice A2 (digs (dm u1)).length c2, .int .i64 (de u1)] 24)).trans b3).alloc (.cells #[.bool (dneg u2), .slice A3 (digs (dm u2)).length c3, .int .i64 (de u2)] 24)).trans b4)) (n3.bel (((Bel.refl _).alloc (.cells #[.bool (dneg u2), .slice A3 (digs (dm u2)).length c3, .int .i64 (de u2)] 24)).trans b4)) (b := true) HBS.out).mono ?_); rintro e w5 ⟨rfl, b5⟩
  clear yB10_4_0 yB10_4_1 yB10_4_2 yB12_4_0 yB12_4_1 yB12_4_2
  have KB4_5 := Ho.mk ((KB0.out.bel ((((((((Bel.refl _).trans b1).trans b2).alloc (.cells #[.bool (dneg u1), .slice A2 (digs (dm u1)).length c2, .int .i64 (de u1)] 24)).trans b3).alloc (.cells #[.bool (dneg u2), .slice A3 (digs (dm u2)).length c3, .int .i64 (de u2)] 24)).trans b4).trans b5)))
  have yB4_5_0 := KB4_5.out.cell (i := 0) rfl
  have yB4_5_1 := KB4_5.out.cell (i := 1) rfl
  have yB4_5_2 := KB4_5.out.cell (i := 2) rfl
  go_wp2_with fail
  (with_reducible refine ((HGA.out _ (g0.trans ((((((((Bel.refl _).trans b1).trans b2).alloc (.cells #[.bool (dneg u1), .slice A2 (digs (dm u1)).length c2, .int .i64 (de u1)] 24)).trans b3).alloc (.cells #[.bool (dneg u2), .slice A3 (digs (dm u2)).length c3, .int .i64 (de u2)] 24)).trans b4).trans b5)))).mono ?_); rintro e w6 ⟨rfl, b6⟩
  clear yB4_5_0 yB4_5_1 yB4_5_2
  have KB5_6 := Ho.mk ((KB1.out.bel (((((((((Bel.refl _).trans b1).trans b2).alloc (.cells #[.bool (dneg u1), .slice A2 (digs (dm u1)).length c2, .int .i64 (de u1)] 24)).trans b3).alloc (.cells #[.bool (dneg u2), .slice A3 (digs (dm u2)).length c3, .int .i64 (de u2)] 24)).trans b4).trans b5).trans b6)))
  have yB5_6_0 := KB5_6.out.cell (i := 0) rfl
  have yB5_6_1 := KB5_6.out.cell (i := 1) rfl
  have yB5_6_2 := KB5_6.out.cell (i := 2) rfl
  go_wp2_with fail
  (with_reducible refine ((HGB.out _ (g0.trans (((((((((Bel.refl _).trans b1).trans b2).alloc (.cells #[.bool (dneg u1), .slice A2 (digs (dm u1)).length c2, .int .i64 (de u1)] 24)).trans b3).alloc (.cells #[.bool (dneg u2), .slice A3 (digs (dm u2)).length c3, .int .i64 (de u2)] 24)).trans b4).trans b5).trans b6)))).mono ?_); rintro e w7 ⟨rfl, b7⟩
  clear yB5_6_0 yB5_6_1 yB5_6_2
  go_wp2_with fail
  have KB4_r8 := Ho.mk ((KB4_5.out.bel (((Bel.refl _).trans b6).trans b7)))
  have yB4_r8_0 := KB4_r8.out.cell (i := 0) rfl
  have yB4_r8_1 := KB4_r8.out.cell (i := 1) rfl
  have yB4_r8_2 := KB4_r8.out.cell (i := 2) rfl
  have KB5_r8 := Ho.mk ((KB5_6.out.bel ((Bel.refl _).trans b7)))
  have yB5_r8_0 := KB5_r8.out.cell (i := 0) rfl
  have yB5_r8_1 := KB5_r8.out.cell (i := 1) rfl
  have yB5_r8_2 := KB5_r8.out.cell (i := 2) rfl
  refine wp_region_held_drew (S := fun w' => Bel w7 w') (by kernel_rfl) (Bel.refl _).drew (fun hHeld => ?_)
  (try dsimp only at hHeld)
  refine r_take (i := 0) (v := ?_) rfl (by kernel_rfl) (by kernel_rfl) (by kernel_rfl) (fun _ _ _ h => h) (by kernel_rfl) hHeld ?_ ?_
  rotate_left
  · (intro w hSw; go_simp; try (with_reducible rfl))
  try simp only [Act.put, List.setIfInBounds_toArray, List.set_cons_zero, List.set_cons_succ]
  refine r_take (i := 1) (v := ?_) rfl (by kernel_rfl) (by kernel_rfl) (by kernel_rfl) (fun _ _ _ h => h) (by kernel_rfl) hHeld ?_ ?_
  rotate_left
  · (intro w hSw; go_simp; try (with_reducible rfl))
  try simp only [Act.put, List.setIfInBounds_toArray, List.set_cons_zero, List.set_cons_succ]
  refine r_take (i := 2) (v := ?_) rfl (by kernel_rfl) (by kernel_rfl) (by kernel_rfl) (fun _ _ _ h => h) (by kernel_rfl) hHeld ?_ ?_
  rotate_left
  · (intro w hSw; have z0 := Bel.cell hSw yB4_r8_0; have z1 := Bel.cell hSw yB4_r8_1; have z2 := Bel.cell hSw yB4_r8_2; go_simp; try (with_reducible rfl))
  try simp only [Act.put, List.setIfInBounds_toArray, List.set_cons_zero, List.set_cons_succ]
  refine r_take (i := 3) (v := ?_) rfl (by kernel_rfl) (by kernel_rfl) (by kernel_rfl) (fun _ _ _ h => h) (by kernel_rfl) hHeld ?_ ?_
  rotate_left
  · (intro w hSw; have z0 := Bel.cell hSw yB5_r8_0; have z1 := Bel.cell hSw yB5_r8_1; have z2 := Bel.cell hSw yB5_r8_2; go_simp; try (with_reducible rfl))
  try simp only [Act.put, List.setIfInBounds_toArray, List.set_cons_zero, List.set_cons_succ]
  refine r_call (i := 4) (by kernel_rfl) rfl (by kernel_rfl) (fun K hK => ?_)
  go_simp
  go_at_call 25
  (with_reducible refine (F1.rCmp ((p0.bel g0).bel (((((((((((Bel.refl _).trans b1).trans b2).alloc (.cells #[.bool (dneg u1), .slice A2 (digs (dm u1)).length c2, .int .i64 (de u1)] 24)).trans b3).alloc (.cells #[.bool (dneg u2), .slice A3 (digs (dm u2)).length c3, .int .i64 (de u2)] 24)).trans b4).trans b5).trans b6).trans b7).drew)) ((p1.bel g0).bel (((((((((((Bel.refl _).trans b1).trans b2).alloc (.cells #[.bool (dneg u1), .slice A2 (digs (dm u1)).length c2, .int .i64 (de u1)] 24)).trans b3).alloc (.cells #[.bool (dneg u2), .slice A3 (digs (dm u2)).length c3, .int .i64 (de u2)] 24)).trans b4).trans b5).trans b6).trans b7).drew)) (by omega) (by omega) (r := rd) HRD.out).mono ?_); rintro e w8 ⟨rfl, b8⟩
  try go_wp2_with fail
  refine hK.out _ _ (Bel.trans hHeld b8) (fun hHeld => ?_)
  clear hK K
  try simp only [Act.put, List.setIfInBounds_toArray, List.set_cons_zero, List.set_cons_succ]
  refine r_take (i := 5) (v := ?_) rfl (by kernel_rfl) (by kernel_rfl) (by kernel_rfl) (fun _ _ _ h => h) (by kernel_rfl) hHeld ?_ ?_
  rotate_left
  · (intro w hSw; go_simp; try (with_reducible rfl))
  try simp only [Act.put, List.setIfInBounds_toArray, List.set_cons_zero, List.set_cons_succ]
  refine r_take (i := 6) (v := ?_) rfl (by kernel_rfl) (by kernel_rfl) (by kernel_rfl) (fun _ _ _ h => h) (by kernel_rfl) hHeld ?_ ?_
  rotate_left
  · (intro w hSw; go_simp; try (with_reducible rfl))
  try simp only [Act.put, List.setIfInBounds_toArray, List.set_cons_zero, List.set_cons_succ]
  refine r_take (i := 7) (v := ?_) rfl (by kernel_rfl) (by kernel_rfl) (by kernel_rfl) (fun _ _ _ h => h) (by kernel_rfl) hHeld ?_ ?_
  rotate_left
  · (intro w hSw; have z0 := Bel.cell hSw yB4_r8_0; have z1 := Bel.cell hSw yB4_r8_1; have z2 := Bel.cell hSw yB4_r8_2; go_simp; try (with_reducible rfl))
  try simp only [Act.put, List.setIfInBounds_toArray, List.set_cons_zero, List.set_cons_succ]
  refine r_take (i := 9) (v := ?_) rfl (by kernel_rfl) (by kernel_rfl) (by kernel_rfl) (fun _ _ _ h => h) (by kernel_rfl) hHeld ?_ ?_
  rotate_left
  · (intro w hSw; have z0 := Bel.cell hSw yB5_r8_0; have z1 := Bel.cell hSw yB5_r8_1; have z2 := Bel.cell hSw yB5_r8_2; go_simp; try (with_reducible rfl))
  try simp only [Act.put, List.setIfInBounds_toArray, List.set_cons_zero, List.set_cons_succ]
  refine r_call (i := 8) (by kernel_rfl) rfl (by kernel_rfl) (fun K hK => ?_)
  go_simp
  go_at_call 47
  (with_reducible refine (nearD ((p0.bel g0).bel ((((((((((((Bel.refl _).trans b1).trans b2).alloc (.cells #[.bool (dneg u1), .slice A2 (digs (dm u1)).length c2, .int .i64 (de u1)] 24)).trans b3).alloc (.cells #[.bool (dneg u2), .slice A3 (digs (dm u2)).length c3, .int .i64 (de u2)] 24)).trans b4).trans b5).trans b6).trans b7).drew).trans b8)) (by omega) (by omega) (r := na) HNA.out).mono ?_); rintro e w9 ⟨rfl, b9⟩
  try go_wp2_with fail
  refine hK.out _ _ (Bel.trans hHeld b9) (fun hHeld => ?_)
  clear hK K
  try simp only [Act.put, List.setIfInBounds_toArray, List.set_cons_zero, List.set_cons_succ]
  refine r_call (i := 10) (by kernel_rfl) rfl (by kernel_rfl) (fun K hK => ?_)
  go_simp
  go_at_call 47
  (with_reducible refine (nearD ((p1.bel g0).bel (((((((((((((Bel.refl _).trans b1).trans b2).alloc (.cells #[.bool (dneg u1), .slice A2 (digs (dm u1)).length c2, .int .i64 (de u1)] 24)).trans b3).alloc (.cells #[.bool (dneg u2), .slice A3 (digs (dm u2)).length c3, .int .i64 (de u2)] 24)).trans b4).trans b5).trans b6).trans b7).drew).trans b8).trans b9)) (by omega) (by omega) (r := nb) HNB.out).mono ?_); rintro e w10 ⟨rfl, b10⟩
  try go_wp2_with fail
  refine hK.out _ _ (Bel.trans hHeld b10) (fun hHeld => ?_)
  clear hK K
  try simp only [Act.put, List.setIfInBounds_toArray, List.set_cons_zero, List.set_cons_succ]
  refine r_take (i := 11) (v := ?_) rfl (by kernel_rfl) (by kernel_rfl) (by kernel_rfl) (fun _ _ _ h => h) (by kernel_rfl) hHeld ?_ ?_
  rotate_left
  · (intro w hSw; go_simp; try (with_reducible rfl))
  try simp only [Act.put, List.setIfInBounds_toArray, List.set_cons_zero, List.set_cons_succ]
  refine r_take (i := 12) (v := ?_) rfl (by kernel_rfl) (by kernel_rfl) (by kernel_rfl) (fun _ _ _ h => h) (by kernel_rfl) hHeld ?_ ?_
  rotate_left
  · (intro w hSw; go_simp; try (with_reducible rfl))
  try simp only [Act.put, List.setIfInBounds_toArray, List.set_cons_zero, List.set_cons_succ]
  refine r_take (i := 13) (v := ?_) rfl (by kernel_rfl) (by kernel_rfl) (by kernel_rfl) (fun _ _ _ h => h) (by kernel_rfl) hHeld ?_ ?_
  rotate_left
  · (intro w hSw; go_simp; try (with_reducible rfl))
  try simp only [Act.put, List.setIfInBounds_toArray, List.set_cons_zero, List.set_cons_succ]
  refine r_take (i := 14) (v := ?_) rfl (by kernel_rfl) (by kernel_rfl) (by kernel_rfl) (fun _ _ _ h => h) (by kernel_rfl) hHeld ?_ ?_
  rotate_left
  · (intro w hSw; go_simp; try (with_reducible rfl))
  try simp only [Act.put, List.setIfInBounds_toArray, List.set_cons_zero, List.set_cons_succ]
  refine r_take (i := 15) (v := ?_) rfl (by kernel_rfl) (by kernel_rfl) (by kernel_rfl) (fun _ _ _ h => h) (by kernel_rfl) hHeld ?_ ?_
  rotate_left
  · (intro w hSw; have z0 := Bel.cell hSw yB4_r8_0; have z1 := Bel.cell hSw yB4_r8_1; have z2 := Bel.cell hSw yB4_r8_2; go_simp; try (with_reducible rfl))
  try simp only [Act.put, List.setIfInBounds_toArray, List.set_cons_zero, List.set_cons_succ]
  refine r_take (i := 18) (v := ?_) rfl (by kernel_rfl) (by kernel_rfl) (by kernel_rfl) (fun _ _ _ h => h) (by kernel_rfl) hHeld ?_ ?_
  rotate_left
  · (intro w hSw; have z0 := Bel.cell hSw yB4_r8_0; have z1 := Bel.cell hSw yB4_r8_1; have z2 := Bel.cell hSw yB4_r8_2; go_simp; try (with_reducible rfl))
  try simp only [Act.put, List.setIfInBounds_toArray, List.set_cons_zero, List.set_cons_succ]
  refine r_call (i := 16) (by kernel_rfl) rfl (by kernel_rfl) (fun K hK => ?_)
  go_simp
  go_at_call 29
  (with_reducible refine (F1.rFlip ((p0.bel g0).bel ((((((((((((((Bel.refl _).trans b1).trans b2).alloc (.cells #[.bool (dneg u1), .slice A2 (digs (dm u1)).length c2, .int .i64 (de u1)] 24)).trans b3).alloc (.cells #[.bool (dneg u2), .slice A3 (digs (dm u2)).length c3, .int .i64 (de u2)] 24)).trans b4).trans b5).trans b6).trans b7).drew).trans b8).trans b9).trans b10))).mono ?_); rintro e w11 ⟨A11, c11, rfl, n11, b11⟩
  try go_wp2_with fail
  refine hK.out _ _ (Bel.trans hHeld b11) (fun hHeld => ?_)
  clear hK K
  try simp only [Act.put, List.setIfInBounds_toArray, List.set_cons_zero, List.set_cons_succ]
  refine r_call (i := 17) (by kernel_rfl) rfl (by kernel_rfl) (fun K hK => ?_)
  go_simp
  go_at_call 47
  (with_reducible refine (nearD n11 (by omega) (by omega) (r := nc) HNC.out).mono ?_); rintro e w12 ⟨rfl, b12⟩
  try go_wp2_with fail
  refine hK.out _ _ (Bel.trans hHeld b12) (fun hHeld => ?_)
  clear hK K
  try simp only [Act.put, List.setIfInBounds_toArray, List.set_cons_zero, List.set_cons_succ]
  refine r_call (i := 19) (by kernel_rfl) rfl (by kernel_rfl) (fun K hK => ?_)
  go_simp
  go_at_call 47
  (with_reducible refine (nearD ((p0.bel g0).bel ((((((((((((((((Bel.refl _).trans b1).trans b2).alloc (.cells #[.bool (dneg u1), .slice A2 (digs (dm u1)).length c2, .int .i64 (de u1)] 24)).trans b3).alloc (.cells #[.bool (dneg u2), .slice A3 (digs (dm u2)).length c3, .int .i64 (de u2)] 24)).trans b4).trans b5).trans b6).trans b7).drew).trans b8).trans b9).trans b10).trans b11).trans b12)) (by omega) (by omega) (r := na) HNA.out).mono ?_); rintro e w13 ⟨rfl, b13⟩
  try go_wp2_with fail
  refine hK.out _ _ (Bel.trans hHeld b13) (fun hHeld => ?_)
  clear hK K
  try simp only [Act.put, List.setIfInBounds_toArray, List.set_cons_zero, List.set_cons_succ]
  refine r_take (i := 20) (v := ?_) rfl (by kernel_rfl) (by kernel_rfl) (by kernel_rfl) (fun _ _ _ h => h) (by kernel_rfl) hHeld ?_ ?_
  rotate_left
  · (intro w hSw; go_simp; try (with_reducible rfl))
  try simp only [Act.put, List.setIfInBounds_toArray, List.set_cons_zero, List.set_cons_succ]
  refine r_take (i := 21) (v := ?_) rfl (by kernel_rfl) (by kernel_rfl) (by kernel_rfl) (fun _ _ _ h => h) (by kernel_rfl) hHeld ?_ ?_
  rotate_left
  · (intro w hSw; go_simp; try (with_reducible rfl))
  try simp only [Act.put, List.setIfInBounds_toArray, List.set_cons_zero, List.set_cons_succ]
  refine r_take (i := 22) (v := ?_) rfl (by kernel_rfl) (by kernel_rfl) (by kernel_rfl) (fun _ _ _ h => h) (by kernel_rfl) hHeld ?_ ?_
  rotate_left
  · (intro w hSw; go_simp; try (with_reducible rfl))
  try simp only [Act.put, List.setIfInBounds_toArray, List.set_cons_zero, List.set_cons_succ]
  refine r_take (i := 23) (v := ?_) rfl (by kernel_rfl) (by kernel_rfl) (by kernel_rfl) (fun _ _ _ h => h) (by kernel_rfl) hHeld ?_ ?_
  rotate_left
  · (intro w hSw; go_simp; try (with_reducible rfl))
  try simp only [Act.put, List.setIfInBounds_toArray, List.set_cons_zero, List.set_cons_succ]
  refine wpAnyH_done (by kernel_rfl) ?_ _
  all_goals
    have HE := Ho.mk (g0.trans (((((((((((((((((Bel.refl _).trans b1).trans b2).alloc (.cells #[.bool (dneg u1), .slice A2 (digs (dm u1)).length c2, .int .i64 (de u1)] 24)).trans b3).alloc (.cells #[.bool (dneg u2), .slice A3 (digs (dm u2)).length c3, .int .i64 (de u2)] 24)).trans b4).trans b5).trans b6).trans b7).drew).trans b8).trans b9).trans b10).trans b11).trans b12).trans b13))
    go_wp2
    go_ret
    exact ⟨rfl, HE.out⟩
set_option maxRecDepth 100000 in
set_option maxHeartbeats 8000000 in
theorem order_gt_a0 (n0 : Bool) (A0 : Option Addr) (c0 : Nat) (l0 : List Int) (e0 : Int) (n1 : Bool) (A1 : Option Addr) (c1 : Nat) (l1 : List Int) (e1 : Int) {f g : Nat} (w : World) (T : Tab w) (hr0 : Rd w A0 l0) (hr1 : Rd w A1 l1) (hf : f < 2 * sgnW) (hg : g < 2 * sgnW) (h1 : frung f < infR) (h2 : frung g < infR) (h3 : V g < V f) (ga : H1.goodB n0 l0 e0 = false) :
    Calls Tryd.prog 12 #[.agg #[.bool n0, .slice A0 l0.length c0, .int .i64 e0], .agg #[.bool n1, .slice A1 l1.length c1, .int .i64 e1], .float .f64 f, .float .f64 g] w (Tells w (.bool true)) := by
  have TT := Ho.mk T
  have HO1 := Ho.mk (fun (W : World) (gw : Bel w W) => ofD (b := f) hf W (T.bel gw) (v := fv f) (ok := true) (by first | exact fin_of h1 | exact inf_of h1) (by first | exact (decide_eq_true h1).symm | exact (decide_eq_false h1).symm))
  have HO2 := Ho.mk (fun (W : World) (gw : Bel w W) => ofD (b := g) hg W (T.bel gw) (v := fv g) (ok := true) (fin_of h2) (decide_eq_true h2).symm)
  obtain ⟨q1, q2, q3, q4⟩ := ord_gt hf hg h1 h2 h3
  have HRF := Ho.mk q3
  have HBS := Ho.mk q4
  clear q3 q4
  obtain ⟨u1, hu1⟩ : ∃ u : Int, fv f = u := ⟨_, rfl⟩
  rw [hu1] at HO1 HRF HBS
  clear hu1
  obtain ⟨u2, hu2⟩ : ∃ u : Int, fv g = u := ⟨_, rfl⟩
  rw [hu2] at HO2 HRF HBS
  clear hu2
  have HGA := Ho.mk (fun (W : World) (gw : Bel w W) => goodT n0 A0 c0 l0 e0 W (hr0.bel gw) ga)
  clear T hf hg ga h1 h2 h3
  go_enter Tryd.func12, Tryd.ntmps12
  go_wp2_with fail
  have KB0 := Ho.mk ((Blk.new w [.bool n0, .slice A0 l0.length c0, .int .i64 e0] 24).old (.cells #[.bool n1, .slice A1 l1.length c1, .int .i64 e1] 24))
  have KB1 := Ho.mk (Blk.new (w.alloc (.cells #[.bool n0, .slice A0 l0.length c0, .int .i64 e0] 24)) [.bool n1, .slice A1 l1.length c1, .int .i64 e1] 24)
  have g0 := ((Bel.refl w).alloc (.cells #[.bool n0, .slice A0 l0.length c0, .int .i64 e0] 24)).alloc (.cells #[.bool n1, .slice A1 l1.length c1, .int .i64 e1] 24)
  rw [World.size_alloc] at KB1
  have hZ : ((w.alloc (.cells #[.bool n0, .slice A0 l0.length c0, .int .i64 e0] 24)).alloc (.cells #[.bool n1, .slice A1 l1.length c1, .int .i64 e1] 24)) = ((w.alloc (.cells #[.bool n0, .slice A0 l0.length c0, .int .i64 e0] 24)).alloc (.cells #[.bool n1, .slice A1 l1.length c1, .int .i64 e1] 24)) := rfl
  generalize ((w.alloc (.cells #[.bool n0, .slice A0 l0.length c0, .int .i64 e0] 24)).alloc (.cells #[.bool n1, .slice A1 l1.length c1, .int .i64 e1] 24)) = w0 at *
  clear hZ
  (with_reducible refine (headT _ (TT.out.bel (g0.trans (Bel.refl _)))).mono ?_); rintro e w1 ⟨rfl, b1⟩
  go_wp2_with fail
  (with_reducible refine (HO1.out _ (g0.trans ((Bel.refl _).trans b1))).mono ?_); rintro e w2 ⟨A2, c2, rfl, n2, b2⟩
  have KB10 := Ho.mk (Blk.new w2 [.bool (dneg u1), .slice A2 (digs (dm u1)).length c2, .int .i64 (de u1)] 24)
  go_wp2_with fail
  (with_reducible refine (HO2.out _ (g0.trans ((((Bel.refl _).trans b1).trans b2).alloc (.cells #[.bool (dneg u1), .slice A2 (digs (dm u1)).length c2, .int .i64 (de u1)] 24)))).mono ?_); rintro e w3 ⟨A3, c3, rfl, n3, b3⟩
  have KB12 := Ho.mk (Blk.new w3 [.bool (dneg u2), .slice A3 (digs (dm u2)).length c3, .int .i64 (de u2)] 24)
  have KB10_3x := Ho.mk ((KB10.out.bel (((Bel.refl _).trans b3).alloc (.cells #[.bool (dneg u2), .slice A3 (digs (dm u2)).length c3, .int .i64 (de u2)] 24))))
  have yB10_3x_0 := KB10_3x.out.cell (i := 0) rfl
  have yB10_3x_1 := KB10_3x.out.cell (i := 1) rfl
  have yB10_3x_2 := KB10_3x.out.cell (i := 2) rfl
  have KB12_3x := Ho.mk (KB12.out)
  have yB12_3x_0 := KB12_3x.out.cell (i := 0) rfl
  have yB12_3x_1 := KB12_3x.out.cell (i := 1) rfl
  have yB12_3x_2 := KB12_3x.out.cell (i := 2) rfl
  go_wp2_with fail
  (with_reducible refine (F1.rCmp (n2.bel ((((Bel.refl _).alloc (.cells #[.bool (dneg u1), .slice A2 (digs (dm u1)).length c2, .int .i64 (de u1)] 24)).trans b3).alloc (.cells #[.bool (dneg u2), .slice A3 (digs (dm u2)).length c3, .int .i64 (de u2)] 24))) (n3.bel ((Bel.refl _).alloc (.cells #[.bool (dneg u2), .slice A3 (digs (dm u2)).length c3, .int .i64 (de u2)] 24))) (by omega) (by omega) (r := 1) HRF.out).mono ?_); rintro e w4 ⟨rfl, b4⟩
  clear yB10_3x_0 yB10_3x_1 yB10_3x_2 yB12_3x_0 yB12_3x_1 yB12_3x_2
  have KB10_4 := Ho.mk ((KB10_3x.out.bel ((Bel.refl _).trans b4)))
  have yB10_4_0 := KB10_4.out.cell (i := 0) rfl
  have yB10_4_1 := KB10_4.out.cell (i := 1) rfl
  have yB10_4_2 := KB10_4.out.cell (i := 2) rfl
  have KB12_4 := Ho.mk ((KB12_3x.out.bel ((Bel.refl _).trans b4)))
  have yB12_4_0 := KB12_4.out.cell (i := 0) rfl
  have yB12_4_1 := KB12_4.out.cell (i := 1) rfl
  have yB12_4_2 := KB12_4.out.cell (i := 2) rfl
  go_wp2_with fail
  (with_reducible refine (F1.sameB (n2.bel (((((Bel.refl _).alloc (.cells #[.bool (dneg u1), .slice A2 (digs (dm u1)).length c2, .int .i64 (de u1)] 24)).trans b3).alloc (.cells #[.bool (dneg u2), .slice A3 (digs (dm u2)).length c3, .int .i64 (de u2)] 24)).trans b4)) (n3.bel (((Bel.refl _).alloc (.cells #[.bool (dneg u2), .slice A3 (digs (dm u2)).length c3, .int .i64 (de u2)] 24)).trans b4)) (b := false) HBS.out).mono ?_); rintro e w5 ⟨rfl, b5⟩
  clear yB10_4_0 yB10_4_1 yB10_4_2 yB12_4_0 yB12_4_1 yB12_4_2
  have KB4_5 := Ho.mk ((KB0.out.bel ((((((((Bel.refl _).trans b1).trans b2).alloc (.cells #[.bool (dneg u1), .slice A2 (digs (dm u1)).length c2, .int .i64 (de u1)] 24)).trans b3).alloc (.cells #[.bool (dneg u2), .slice A3 (digs (dm u2)).length c3, .int .i64 (de u2)] 24)).trans b4).trans b5)))
  have yB4_5_0 := KB4_5.out.cell (i := 0) rfl
  have yB4_5_1 := KB4_5.out.cell (i := 1) rfl
  have yB4_5_2 := KB4_5.out.cell (i := 2) rfl
  go_wp2_with fail
  (with_reducible refine ((HGA.out _ (g0.trans ((((((((Bel.refl _).trans b1).trans b2).alloc (.cells #[.bool (dneg u1), .slice A2 (digs (dm u1)).length c2, .int .i64 (de u1)] 24)).trans b3).alloc (.cells #[.bool (dneg u2), .slice A3 (digs (dm u2)).length c3, .int .i64 (de u2)] 24)).trans b4).trans b5)))).mono ?_); rintro e w6 ⟨rfl, b6⟩
  clear yB4_5_0 yB4_5_1 yB4_5_2
  all_goals
    have HE := Ho.mk (g0.trans (((((((((Bel.refl _).trans b1).trans b2).alloc (.cells #[.bool (dneg u1), .slice A2 (digs (dm u1)).length c2, .int .i64 (de u1)] 24)).trans b3).alloc (.cells #[.bool (dneg u2), .slice A3 (digs (dm u2)).length c3, .int .i64 (de u2)] 24)).trans b4).trans b5).trans b6))
    go_wp2
    go_ret
    exact ⟨rfl, HE.out⟩
set_option maxRecDepth 100000 in
set_option maxHeartbeats 8000000 in
theorem order_gt_b0 (n0 : Bool) (A0 : Option Addr) (c0 : Nat) (l0 : List Int) (e0 : Int) (n1 : Bool) (A1 : Option Addr) (c1 : Nat) (l1 : List Int) (e1 : Int) {f g : Nat} (w : World) (T : Tab w) (hr0 : Rd w A0 l0) (hr1 : Rd w A1 l1) (hf : f < 2 * sgnW) (hg : g < 2 * sgnW) (h1 : frung f < infR) (h2 : frung g < infR) (h3 : V g < V f) (ga : H1.goodB n0 l0 e0 = true) (gb : H1.goodB n1 l1 e1 = false) :
    Calls Tryd.prog 12 #[.agg #[.bool n0, .slice A0 l0.length c0, .int .i64 e0], .agg #[.bool n1, .slice A1 l1.length c1, .int .i64 e1], .float .f64 f, .float .f64 g] w (Tells w (.bool true)) := by
  have TT := Ho.mk T
  have HO1 := Ho.mk (fun (W : World) (gw : Bel w W) => ofD (b := f) hf W (T.bel gw) (v := fv f) (ok := true) (by first | exact fin_of h1 | exact inf_of h1) (by first | exact (decide_eq_true h1).symm | exact (decide_eq_false h1).symm))
  have HO2 := Ho.mk (fun (W : World) (gw : Bel w W) => ofD (b := g) hg W (T.bel gw) (v := fv g) (ok := true) (fin_of h2) (decide_eq_true h2).symm)
  obtain ⟨q1, q2, q3, q4⟩ := ord_gt hf hg h1 h2 h3
  have HRF := Ho.mk q3
  have HBS := Ho.mk q4
  clear q3 q4
  obtain ⟨u1, hu1⟩ : ∃ u : Int, fv f = u := ⟨_, rfl⟩
  rw [hu1] at HO1 HRF HBS
  clear hu1
  obtain ⟨u2, hu2⟩ : ∃ u : Int, fv g = u := ⟨_, rfl⟩
  rw [hu2] at HO2 HRF HBS
  clear hu2
  have HGA := Ho.mk (fun (W : World) (gw : Bel w W) => goodT n0 A0 c0 l0 e0 W (hr0.bel gw) ga)
  have HGB := Ho.mk (fun (W : World) (gw : Bel w W) => goodT n1 A1 c1 l1 e1 W (hr1.bel gw) gb)
  clear T hf hg ga gb h1 h2 h3
  go_enter Tryd.func12, Tryd.ntmps12
  go_wp2_with fail
  have KB0 := Ho.mk ((Blk.new w [.bool n0, .slice A0 l0.length c0, .int .i64 e0] 24).old (.cells #[.bool n1, .slice A1 l1.length c1, .int .i64 e1] 24))
  have KB1 := Ho.mk (Blk.new (w.alloc (.cells #[.bool n0, .slice A0 l0.length c0, .int .i64 e0] 24)) [.bool n1, .slice A1 l1.length c1, .int .i64 e1] 24)
  have g0 := ((Bel.refl w).alloc (.cells #[.bool n0, .slice A0 l0.length c0, .int .i64 e0] 24)).alloc (.cells #[.bool n1, .slice A1 l1.length c1, .int .i64 e1] 24)
  rw [World.size_alloc] at KB1
  have hZ : ((w.alloc (.cells #[.bool n0, .slice A0 l0.length c0, .int .i64 e0] 24)).alloc (.cells #[.bool n1, .slice A1 l1.length c1, .int .i64 e1] 24)) = ((w.alloc (.cells #[.bool n0, .slice A0 l0.length c0, .int .i64 e0] 24)).alloc (.cells #[.bool n1, .slice A1 l1.length c1, .int .i64 e1] 24)) := rfl
  generalize ((w.alloc (.cells #[.bool n0, .slice A0 l0.length c0, .int .i64 e0] 24)).alloc (.cells #[.bool n1, .slice A1 l1.length c1, .int .i64 e1] 24)) = w0 at *
  clear hZ
  (with_reducible refine (headT _ (TT.out.bel (g0.trans (Bel.refl _)))).mono ?_); rintro e w1 ⟨rfl, b1⟩
  go_wp2_with fail
  (with_reducible refine (HO1.out _ (g0.trans ((Bel.refl _).trans b1))).mono ?_); rintro e w2 ⟨A2, c2, rfl, n2, b2⟩
  have KB10 := Ho.mk (Blk.new w2 [.bool (dneg u1), .slice A2 (digs (dm u1)).length c2, .int .i64 (de u1)] 24)
  go_wp2_with fail
  (with_reducible refine (HO2.out _ (g0.trans ((((Bel.refl _).trans b1).trans b2).alloc (.cells #[.bool (dneg u1), .slice A2 (digs (dm u1)).length c2, .int .i64 (de u1)] 24)))).mono ?_); rintro e w3 ⟨A3, c3, rfl, n3, b3⟩
  have KB12 := Ho.mk (Blk.new w3 [.bool (dneg u2), .slice A3 (digs (dm u2)).length c3, .int .i64 (de u2)] 24)
  have KB10_3x := Ho.mk ((KB10.out.bel (((Bel.refl _).trans b3).alloc (.cells #[.bool (dneg u2), .slice A3 (digs (dm u2)).length c3, .int .i64 (de u2)] 24))))
  have yB10_3x_0 := KB10_3x.out.cell (i := 0) rfl
  have yB10_3x_1 := KB10_3x.out.cell (i := 1) rfl
  have yB10_3x_2 := KB10_3x.out.cell (i := 2) rfl
  have KB12_3x := Ho.mk (KB12.out)
  have yB12_3x_0 := KB12_3x.out.cell (i := 0) rfl
  have yB12_3x_1 := KB12_3x.out.cell (i := 1) rfl
  have yB12_3x_2 := KB12_3x.out.cell (i := 2) rfl
  go_wp2_with fail
  (with_reducible refine (F1.rCmp (n2.bel ((((Bel.refl _).alloc (.cells #[.bool (dneg u1), .slice A2 (digs (dm u1)).length c2, .int .i64 (de u1)] 24)).trans b3).alloc (.cells #[.bool (dneg u2), .slice A3 (digs (dm u2)).length c3, .int .i64 (de u2)] 24))) (n3.bel ((Bel.refl _).alloc (.cells #[.bool (dneg u2), .slice A3 (digs (dm u2)).length c3, .int .i64 (de u2)] 24))) (by omega) (by omega) (r := 1) HRF.out).mono ?_); rintro e w4 ⟨rfl, b4⟩
  clear yB10_3x_0 yB10_3x_1 yB10_3x_2 yB12_3x_0 yB12_3x_1 yB12_3x_2
  have KB10_4 := Ho.mk ((KB10_3x.out.bel ((Bel.refl _).trans b4)))
  have yB10_4_0 := KB10_4.out.cell (i := 0) rfl
  have yB10_4_1 := KB10_4.out.cell (i := 1) rfl
  have yB10_4_2 := KB10_4.out.cell (i := 2) rfl
  have KB12_4 := Ho.mk ((KB12_3x.out.bel ((Bel.refl _).trans b4)))
  have yB12_4_0 := KB12_4.out.cell (i := 0) rfl
  have yB12_4_1 := KB12_4.out.cell (i := 1) rfl
  have yB12_4_2 := KB12_4.out.cell (i := 2) rfl
  go_wp2_with fail
  (with_reducible refine (F1.sameB (n2.bel (((((Bel.refl _).alloc (.cells #[.bool (dneg u1), .slice A2 (digs (dm u1)).length c2, .int .i64 (de u1)] 24)).trans b3).alloc (.cells #[.bool (dneg u2), .slice A3 (digs (dm u2)).length c3, .int .i64 (de u2)] 24)).trans b4)) (n3.bel (((Bel.refl _).alloc (.cells #[.bool (dneg u2), .slice A3 (digs (dm u2)).length c3, .int .i64 (de u2)] 24)).trans b4)) (b := false) HBS.out).mono ?_); rintro e w5 ⟨rfl, b5⟩
  clear yB10_4_0 yB10_4_1 yB10_4_2 yB12_4_0 yB12_4_1 yB12_4_2
  have KB4_5 := Ho.mk ((KB0.out.bel ((((((((Bel.refl _).trans b1).trans b2).alloc (.cells #[.bool (dneg u1), .slice A2 (digs (dm u1)).length c2, .int .i64 (de u1)] 24)).trans b3).alloc (.cells #[.bool (dneg u2), .slice A3 (digs (dm u2)).length c3, .int .i64 (de u2)] 24)).trans b4).trans b5)))
  have yB4_5_0 := KB4_5.out.cell (i := 0) rfl
  have yB4_5_1 := KB4_5.out.cell (i := 1) rfl
  have yB4_5_2 := KB4_5.out.cell (i := 2) rfl
  go_wp2_with fail
  (with_reducible refine ((HGA.out _ (g0.trans ((((((((Bel.refl _).trans b1).trans b2).alloc (.cells #[.bool (dneg u1), .slice A2 (digs (dm u1)).length c2, .int .i64 (de u1)] 24)).trans b3).alloc (.cells #[.bool (dneg u2), .slice A3 (digs (dm u2)).length c3, .int .i64 (de u2)] 24)).trans b4).trans b5)))).mono ?_); rintro e w6 ⟨rfl, b6⟩
  clear yB4_5_0 yB4_5_1 yB4_5_2
  have KB5_6 := Ho.mk ((KB1.out.bel (((((((((Bel.refl _).trans b1).trans b2).alloc (.cells #[.bool (dneg u1), .slice A2 (digs (dm u1)).length c2, .int .i64 (de u1)] 24)).trans b3).alloc (.cells #[.bool (dneg u2), .slice A3 (digs (dm u2)).length c3, .int .i64 (de u2)] 24)).trans b4).trans b5).trans b6)))
  have yB5_6_0 := KB5_6.out.cell (i := 0) rfl
  have yB5_6_1 := KB5_6.out.cell (i := 1) rfl
  have yB5_6_2 := KB5_6.out.cell (i := 2) rfl
  go_wp2_with fail
  (with_reducible refine ((HGB.out _ (g0.trans (((((((((Bel.refl _).trans b1).trans b2).alloc (.cells #[.bool (dneg u1), .slice A2 (digs (dm u1)).length c2, .int .i64 (de u1)] 24)).trans b3).alloc (.cells #[.bool (dneg u2), .slice A3 (digs (dm u2)).length c3, .int .i64 (de u2)] 24)).trans b4).trans b5).trans b6)))).mono ?_); rintro e w7 ⟨rfl, b7⟩
  clear yB5_6_0 yB5_6_1 yB5_6_2
  all_goals
    have HE := Ho.mk (g0.trans ((((((((((Bel.refl _).trans b1).trans b2).alloc (.cells #[.bool (dneg u1), .slice A2 (digs (dm u1)).length c2, .int .i64 (de u1)] 24)).trans b3).alloc (.cells #[.bool (dneg u2), .slice A3 (digs (dm u2)).length c3, .int .i64 (de u2)] 24)).trans b4).trans b5).trans b6).trans b7))
    go_wp2
    go_ret
    exact ⟨rfl, HE.out⟩
set_option maxRecDepth 100000 in
set_option maxHeartbeats 8000000 in
theorem order_gt_gr {A0 : Option Addr} {c0 : Nat} {v0 : Int} {A1 : Option Addr} {c1 : Nat} {v1 : Int} {f g : Nat} (w : World) (T : Tab w) (p0 : Dv w A0 c0 v0 3000 3480) (p1 : Dv w A1 c1 v1 3000 3480) (hf : f < 2 * sgnW) (hg : g < 2 * sgnW) (h1 : frung f < infR) (h2 : frung g < infR) (h3 : V g < V f) (ga : H1.goodB (dneg v0) (digs (dm v0)) (de v0) = true) (gb : H1.goodB (dneg v1) (digs (dm v1)) (de v1) = true) (h4 : v1 < v0) :
    Calls Tryd.prog 12 #[.agg #[.bool (dneg v0), .slice A0 (digs (dm v0)).length c0, .int .i64 (de v0)], .agg #[.bool (dneg v1), .slice A1 (digs (dm v1)).length c1, .int .i64 (de v1)], .float .f64 f, .float .f64 g] w (Tells w (.bool true)) := by
  have TT := Ho.mk T
  have HO1 := Ho.mk (fun (W : World) (gw : Bel w W) => ofD (b := f) hf W (T.bel gw) (v := fv f) (ok := true) (by first | exact fin_of h1 | exact inf_of h1) (by first | exact (decide_eq_true h1).symm | exact (decide_eq_false h1).symm))
  have HO2 := Ho.mk (fun (W : World) (gw : Bel w W) => ofD (b := g) hg W (T.bel gw) (v := fv g) (ok := true) (fin_of h2) (decide_eq_true h2).symm)
  obtain ⟨q1, q2, q3, q4⟩ := ord_gt hf hg h1 h2 h3
  have HRF := Ho.mk q3
  have HBS := Ho.mk q4
  clear q3 q4
  obtain ⟨u1, hu1⟩ : ∃ u : Int, fv f = u := ⟨_, rfl⟩
  rw [hu1] at HO1 HRF HBS
  clear hu1
  obtain ⟨u2, hu2⟩ : ∃ u : Int, fv g = u := ⟨_, rfl⟩
  rw [hu2] at HO2 HRF HBS
  clear hu2
  have HGA := Ho.mk (fun (W : World) (gw : Bel w W) => goodT (dneg v0) A0 c0 (digs (dm v0)) (de v0) W (p0.rd.bel gw) ga)
  have HGB := Ho.mk (fun (W : World) (gw : Bel w W) => goodT (dneg v1) A1 c1 (digs (dm v1)) (de v1) W (p1.rd.bel gw) gb)
  obtain ⟨rd, hrd⟩ : ∃ r, cmpI v0 v1 = r := ⟨_, rfl⟩
  have d1 : decide (0 < rd) = true := decide_eq_true (by rw [← hrd, cmpI_gt h4]; decide)
  have HRD := Ho.mk hrd
  clear hrd
  have cng := near_neg v0
  obtain ⟨na, hna⟩ : ∃ n, nw v0 = n := ⟨_, rfl⟩
  obtain ⟨nb, hnb⟩ : ∃ n, nw v1 = n := ⟨_, rfl⟩
  obtain ⟨nc, hnc⟩ : ∃ n, nw (-v0) = n := ⟨_, rfl⟩
  rw [hna, hnc] at cng
  have hng := fun (W : World) => G9.run_neg na W
  generalize Op.negFloat .f64 na = nd at *
  have HNA := Ho.mk hna
  have HNB := Ho.mk hnb
  have HNC := Ho.mk hnc
  clear hna hnb hnc
  clear T hf hg ga gb h1 h2 h3 h4
  go_enter Tryd.func12, Tryd.ntmps12
  go_wp2_with fail
  have KB0 := Ho.mk ((Blk.new w [.bool (dneg v0), .slice A0 (digs (dm v0)).length c0, .int .i64 (de v0)] 24).old (.cells #[.bool (dneg v1), .slice A1 (digs (dm v1)).length c1, .int .i64 (de v1)] 24))
  have KB1 := Ho.mk (Blk.new (w.alloc (.cells #[.bool (dneg v0), .slice A0 (digs (dm v0)).length c0, .int .i64 (de v0)] 24)) [.bool (dneg v1), .slice A1 (digs (dm v1)).length c1, .int .i64 (de v1)] 24)
  have g0 := ((Bel.refl w).alloc (.cells #[.bool (dneg v0), .slice A0 (digs (dm v0)).length c0, .int .i64 (de v0)] 24)).alloc (.cells #[.bool (dneg v1), .slice A1 (digs (dm v1)).length c1, .int .i64 (de v1)] 24)
  rw [World.size_alloc] at KB1
  have hZ : ((w.alloc (.cells #[.bool (dneg v0), .slice A0 (digs (dm v0)).length c0, .int .i64 (de v0)] 24)).alloc (.cells #[.bool (dneg v1), .slice A1 (digs (dm v1)).length c1, .int .i64 (de v1)] 24)) = ((w.alloc (.cells #[.bool (dneg v0), .slice A0 (digs (dm v0)).length c0, .int .i64 (de v0)] 24)).alloc (.cells #[.bool (dneg v1), .slice A1 (digs (dm v1)).length c1, .int .i64 (de v1)] 24)) := rfl
  generalize ((w.alloc (.cells #[.bool (dneg v0), .slice A0 (digs (dm v0)).length c0, .int .i64 (de v0)] 24)).alloc (.cells #[.bool (dneg v1), .slice A1 (digs (dm v1)).length c1, .int .i64 (de v1)] 24)) = w0 at *
  clear hZ
  (with_reducible refine (headT _ (TT.out.bel (g0.trans (Bel.refl _)))).mono ?_); rintro e w1 ⟨rfl, b1⟩
  go_wp2_with fail
  (with_reducible refine (HO1.out _ (g0.trans ((Bel.refl _).trans b1))).mono ?_); rintro e w2 ⟨A2, c2, rfl, n2, b2⟩
  have KB10 := Ho.mk (Blk.new w2 [.bool (dneg u1), .slice A2 (digs (dm u1)).length c2, .int .i64 (de u1)] 24)
  go_wp2_with fail
  (with_reducible refine (HO2.out _ (g0.trans ((((Bel.refl _).trans b1).trans b2).alloc (.cells #[.bool (dneg u1), .slice A2 (digs (dm u1)).length c2, .int .i64 (de u1)] 24)))).mono ?_); rintro e w3 ⟨A3, c3, rfl, n3, b3⟩
  have KB12 := Ho.mk (Blk.new w3 [.bool (dneg u2), .slice A3 (digs (dm u2)).length c3, .int .i64 (de u2)] 24)
  have KB10_3x := Ho.mk ((KB10.out.bel (((Bel.refl _).trans b3).alloc (.cells #[.bool (dneg u2), .slice A3 (digs (dm u2)).length c3, .int .i64 (de u2)] 24))))
  have yB10_3x_0 := KB10_3x.out.cell (i := 0) rfl
  have yB10_3x_1 := KB10_3x.out.cell (i := 1) rfl
  have yB10_3x_2 := KB10_3x.out.cell (i := 2) rfl
  have KB12_3x := Ho.mk (KB12.out)
  have yB12_3x_0 := KB12_3x.out.cell (i := 0) rfl
  have yB12_3x_1 := KB12_3x.out.cell (i := 1) rfl
  have yB12_3x_2 := KB12_3x.out.cell (i := 2) rfl
  go_wp2_with fail
  (with_reducible refine (F1.rCmp (n2.bel ((((Bel.refl _).alloc (.cells #[.bool (dneg u1), .slice A2 (digs (dm u1)).length c2, .int .i64 (de u1)] 24)).trans b3).alloc (.cells #[.bool (dneg u2), .slice A3 (digs (dm u2)).length c3, .int .i64 (de u2)] 24))) (n3.bel ((Bel.refl _).alloc (.cells #[.bool (dneg u2), .slice A3 (digs (dm u2)).length c3, .int .i64 (de u2)] 24))) (by omega) (by omega) (r := 1) HRF.out).mono ?_); rintro e w4 ⟨rfl, b4⟩
  clear yB10_3x_0 yB10_3x_1 yB10_3x_2 yB12_3x_0 yB12_3x_1 yB12_3x_2
  have KB10_4 := Ho.mk ((KB10_3x.out.bel ((Bel.refl _).trans b4)))
  have yB10_4_0 := KB10_4.out.cell (i := 0) rfl
  have yB10_4_1 := KB10_4.out.cell (i := 1) rfl
  have yB10_4_2 := KB10_4.out.cell (i := 2) rfl
  have KB12_4 := Ho.mk ((KB12_3x.out.bel ((Bel.refl _).trans b4)))
  have yB12_4_0 := KB12_4.out.cell (i := 0) rfl
  have yB12_4_1 := KB12_4.out.cell (i := 1) rfl
  have yB12_4_2 := KB12_4.out.cell (i := 2) rfl
  go_wp2_with fail
  (with_reducible refine (F1.sameB (n2.bel (((((Bel.refl _).alloc (.cells #[.bool (dneg u1), .slice A2 (digs (dm u1)).length c2, .int .i64 (de u1)] 24)).trans b3).alloc (.cells #[.bool (dneg u2), .slice A3 (digs (dm u2)).length c3, .int .i64 (de u2)] 24)).trans b4)) (n3.bel (((Bel.refl _).alloc (.cells #[.bool (dneg u2), .slice A3 (digs (dm u2)).length c3, .int .i64 (de u2)] 24)).trans b4)) (b := false) HBS.out).mono ?_); rintro e w5 ⟨rfl, b5⟩
  clear yB10_4_0 yB10_4_1 yB10_4_2 yB12_4_0 yB12_4_1 yB12_4_2
  have KB4_5 := Ho.mk ((KB0.out.bel ((((((((Bel.refl _).trans b1).trans b2).alloc (.cells #[.bool (dneg u1), .slice A2 (digs (dm u1)).length c2, .int .i64 (de u1)] 24)).trans b3).alloc (.cells #[.bool (dneg u2), .slice A3 (digs (dm u2)).length c3, .int .i64 (de u2)] 24)).trans b4).trans b5)))
  have yB4_5_0 := KB4_5.out.cell (i := 0) rfl
  have yB4_5_1 := KB4_5.out.cell (i := 1) rfl
  have yB4_5_2 := KB4_5.out.cell (i := 2) rfl
  go_wp2_with fail
  (with_reducible refine ((HGA.out _ (g0.trans ((((((((Bel.refl _).trans b1).trans b2).alloc (.cells #[.bool (dneg u1), .slice A2 (digs (dm u1)).length c2, .int .i64 (de u1)] 24)).trans b3).alloc (.cells #[.bool (dneg u2), .slice A3 (digs (dm u2)).length c3, .int .i64 (de u2)] 24)).trans b4).trans b5)))).mono ?_); rintro e w6 ⟨rfl, b6⟩
  clear yB4_5_0 yB4_5_1 yB4_5_2
  have KB5_6 := Ho.mk ((KB1.out.bel (((((((((Bel.refl _).trans b1).trans b2).alloc (.cells #[.bool (dneg u1), .slice A2 (digs (dm u1)).length c2, .int .i64 (de u1)] 24)).trans b3).alloc (.cells #[.bool (dneg u2), .slice A3 (digs (dm u2)).length c3, .int .i64 (de u2)] 24)).trans b4).trans b5).trans b6)))
  have yB5_6_0 := KB5_6.out.cell (i := 0) rfl
  have yB5_6_1 := KB5_6.out.cell (i := 1) rfl
  have yB5_6_2 := KB5_6.out.cell (i := 2) rfl
  go_wp2_with fail
  (with_reducible refine ((HGB.out _ (g0.trans (((((((((Bel.refl _).trans b1).trans b2).alloc (.cells #[.bool (dneg u1), .slice A2 (digs (dm u1)).length c2, .int .i64 (de u1)] 24)).trans b3).alloc (.cells #[.bool (dneg u2), .slice A3 (digs (dm u2)).length c3, .int .i64 (de u2)] 24)).trans b4).trans b5).trans b6)))).mono ?_); rintro e w7 ⟨rfl, b7⟩
  clear yB5_6_0 yB5_6_1 yB5_6_2
  go_wp2_with fail
  have KB4_r8 := Ho.mk ((KB4_5.out.bel (((Bel.refl _).trans b6).trans b7)))
  have yB4_r8_0 := KB4_r8.out.cell (i := 0) rfl
  have yB4_r8_1 := KB4_r8.out.cell (i := 1) rfl
  have yB4_r8_2 := KB4_r8.out.cell (i := 2) rfl
  have KB5_r8 := Ho.mk ((KB5_6.out.bel ((Bel.refl _).trans b7)))
  have yB5_r8_0 := KB5_r8.out.cell (i := 0) rfl
  have yB5_r8_1 := KB5_r8.out.cell (i := 1) rfl
  have yB5_r8_2 := KB5_r8.out.cell (i := 2) rfl
  refine wp_region_held_drew (S := fun w' => Bel w7 w') (by kernel_rfl) (Bel.refl _).drew (fun hHeld => ?_)
  (try dsimp only at hHeld)
  refine r_take (i := 0) (v := ?_) rfl (by kernel_rfl) (by kernel_rfl) (by kernel_rfl) (fun _ _ _ h => h) (by kernel_rfl) hHeld ?_ ?_
  rotate_left
  · (intro w hSw; go_simp; try (with_reducible rfl))
  try simp only [Act.put, List.setIfInBounds_toArray, List.set_cons_zero, List.set_cons_succ]
  refine r_take (i := 1) (v := ?_) rfl (by kernel_rfl) (by kernel_rfl) (by kernel_rfl) (fun _ _ _ h => h) (by kernel_rfl) hHeld ?_ ?_
  rotate_left
  · (intro w hSw; go_simp; try (with_reducible rfl))
  try simp only [Act.put, List.setIfInBounds_toArray, List.set_cons_zero, List.set_cons_succ]
  refine r_take (i := 2) (v := ?_) rfl (by kernel_rfl) (by kernel_rfl) (by kernel_rfl) (fun _ _ _ h => h) (by kernel_rfl) hHeld ?_ ?_
  rotate_left
  · (intro w hSw; have z0 := Bel.cell hSw yB4_r8_0; have z1 := Bel.cell hSw yB4_r8_1; have z2 := Bel.cell hSw yB4_r8_2; go_simp; try (with_reducible rfl))
  try simp only [Act.put, List.setIfInBounds_toArray, List.set_cons_zero, List.set_cons_succ]
  refine r_take (i := 3) (v := ?_) rfl (by kernel_rfl) (by kernel_rfl) (by kernel_rfl) (fun _ _ _ h => h) (by kernel_rfl) hHeld ?_ ?_
  rotate_left
  · (intro w hSw; have z0 := Bel.cell hSw yB5_r8_0; have z1 := Bel.cell hSw yB5_r8_1; have z2 := Bel.cell hSw yB5_r8_2; go_simp; try (with_reducible rfl))
  try simp only [Act.put, List.setIfInBounds_toArray, List.set_cons_zero, List.set_cons_succ]
  refine r_call (i := 4) (by kernel_rfl) rfl (by kernel_rfl) (fun K hK => ?_)
  go_simp
  go_at_call 25
  (with_reducible refine (F1.rCmp ((p0.bel g0).bel (((((((((((Bel.refl _).trans b1).trans b2).alloc (.cells #[.bool (dneg u1), .slice A2 (digs (dm u1)).length c2, .int .i64 (de u1)] 24)).trans b3).alloc (.cells #[.bool (dneg u2), .slice A3 (digs (dm u2)).length c3, .int .i64 (de u2)] 24)).trans b4).trans b5).trans b6).trans b7).drew)) ((p1.bel g0).bel (((((((((((Bel.refl _).trans b1).trans b2).alloc (.cells #[.bool (dneg u1), .slice A2 (digs (dm u1)).length c2, .int .i64 (de u1)] 24)).trans b3).alloc (.cells #[.bool (dneg u2), .slice A3 (digs (dm u2)).length c3, .int .i64 (de u2)] 24)).trans b4).trans b5).trans b6).trans b7).drew)) (by omega) (by omega) (r := rd) HRD.out).mono ?_); rintro e w8 ⟨rfl, b8⟩
  try go_wp2_with fail
  refine hK.out _ _ (Bel.trans hHeld b8) (fun hHeld => ?_)
  clear hK K
  try simp only [Act.put, List.setIfInBounds_toArray, List.set_cons_zero, List.set_cons_succ]
  refine r_take (i := 5) (v := ?_) rfl (by kernel_rfl) (by kernel_rfl) (by kernel_rfl) (fun _ _ _ h => h) (by kernel_rfl) hHeld ?_ ?_
  rotate_left
  · (intro w hSw; go_simp; try (with_reducible rfl))
  try simp only [Act.put, List.setIfInBounds_toArray, List.set_cons_zero, List.set_cons_succ]
  refine r_take (i := 6) (v := ?_) rfl (by kernel_rfl) (by kernel_rfl) (by kernel_rfl) (fun _ _ _ h => h) (by kernel_rfl) hHeld ?_ ?_
  rotate_left
  · (intro w hSw; go_simp; try (with_reducible rfl))
  try simp only [Act.put, List.setIfInBounds_toArray, List.set_cons_zero, List.set_cons_succ]
  refine r_not (i := 7) rfl (by kernel_rfl) (by kernel_rfl) (by kernel_rfl) (fun _ _ _ h => h) (by kernel_rfl) hHeld ?_
  try simp only [Act.put, List.setIfInBounds_toArray, List.set_cons_zero, List.set_cons_succ]
  refine r_not (i := 8) rfl (by kernel_rfl) (by kernel_rfl) (by kernel_rfl) (fun _ _ _ h => h) (by kernel_rfl) hHeld ?_
  try simp only [Act.put, List.setIfInBounds_toArray, List.set_cons_zero, List.set_cons_succ]
  refine r_not (i := 9) rfl (by kernel_rfl) (by kernel_rfl) (by kernel_rfl) (fun _ _ _ h => h) (by kernel_rfl) hHeld ?_
  try simp only [Act.put, List.setIfInBounds_toArray, List.set_cons_zero, List.set_cons_succ]
  refine r_not (i := 10) rfl (by kernel_rfl) (by kernel_rfl) (by kernel_rfl) (fun _ _ _ h => h) (by kernel_rfl) hHeld ?_
  try simp only [Act.put, List.setIfInBounds_toArray, List.set_cons_zero, List.set_cons_succ]
  refine r_not (i := 11) rfl (by kernel_rfl) (by kernel_rfl) (by kernel_rfl) (fun _ _ _ h => h) (by kernel_rfl) hHeld ?_
  try simp only [Act.put, List.setIfInBounds_toArray, List.set_cons_zero, List.set_cons_succ]
  refine r_take (i := 12) (v := ?_) rfl (by kernel_rfl) (by kernel_rfl) (by kernel_rfl) (fun _ _ _ h => h) (by kernel_rfl) hHeld ?_ ?_
  rotate_left
  · (intro w hSw; go_simp; try (with_reducible rfl))
  try simp only [Act.put, List.setIfInBounds_toArray, List.set_cons_zero, List.set_cons_succ]
  refine r_take (i := 13) (v := ?_) rfl (by kernel_rfl) (by kernel_rfl) (by kernel_rfl) (fun _ _ _ h => h) (by kernel_rfl) hHeld ?_ ?_
  rotate_left
  · (intro w hSw; go_simp; try (with_reducible rfl))
  try simp only [Act.put, List.setIfInBounds_toArray, List.set_cons_zero, List.set_cons_succ]
  refine r_take (i := 14) (v := ?_) rfl (by kernel_rfl) (by kernel_rfl) (by kernel_rfl) (fun _ _ _ h => h) (by kernel_rfl) hHeld ?_ ?_
  rotate_left
  · (intro w hSw; go_simp; try (with_reducible rfl))
  try simp only [Act.put, List.setIfInBounds_toArray, List.set_cons_zero, List.set_cons_succ]
  refine r_take (i := 15) (v := ?_) rfl (by kernel_rfl) (by kernel_rfl) (by kernel_rfl) (fun _ _ _ h => h) (by kernel_rfl) hHeld ?_ ?_
  rotate_left
  · (intro w hSw; have z0 := Bel.cell hSw yB4_r8_0; have z1 := Bel.cell hSw yB4_r8_1; have z2 := Bel.cell hSw yB4_r8_2; go_simp; try (with_reducible rfl))
  try simp only [Act.put, List.setIfInBounds_toArray, List.set_cons_zero, List.set_cons_succ]
  refine r_take (i := 18) (v := ?_) rfl (by kernel_rfl) (by kernel_rfl) (by kernel_rfl) (fun _ _ _ h => h) (by kernel_rfl) hHeld ?_ ?_
  rotate_left
  · (intro w hSw; have z0 := Bel.cell hSw yB4_r8_0; have z1 := Bel.cell hSw yB4_r8_1; have z2 := Bel.cell hSw yB4_r8_2; go_simp; try (with_reducible rfl))
  try simp only [Act.put, List.setIfInBounds_toArray, List.set_cons_zero, List.set_cons_succ]
  refine r_call (i := 16) (by kernel_rfl) rfl (by kernel_rfl) (fun K hK => ?_)
  go_simp
  go_at_call 29
  (with_reducible refine (F1.rFlip ((p0.bel g0).bel ((((((((((((Bel.refl _).trans b1).trans b2).alloc (.cells #[.bool (dneg u1), .slice A2 (digs (dm u1)).length c2, .int .i64 (de u1)] 24)).trans b3).alloc (.cells #[.bool (dneg u2), .slice A3 (digs (dm u2)).length c3, .int .i64 (de u2)] 24)).trans b4).trans b5).trans b6).trans b7).drew).trans b8))).mono ?_); rintro e w9 ⟨A9, c9, rfl, n9, b9⟩
  try go_wp2_with fail
  refine hK.out _ _ (Bel.trans hHeld b9) (fun hHeld => ?_)
  clear hK K
  try simp only [Act.put, List.setIfInBounds_toArray, List.set_cons_zero, List.set_cons_succ]
  refine r_call (i := 17) (by kernel_rfl) rfl (by kernel_rfl) (fun K hK => ?_)
  go_simp
  go_at_call 47
  (with_reducible refine (nearD n9 (by omega) (by omega) (r := nc) HNC.out).mono ?_); rintro e w10 ⟨rfl, b10⟩
  try go_wp2_with fail
  refine hK.out _ _ (Bel.trans hHeld b10) (fun hHeld => ?_)
  clear hK K
  try simp only [Act.put, List.setIfInBounds_toArray, List.set_cons_zero, List.set_cons_succ]
  refine r_call (i := 19) (by kernel_rfl) rfl (by kernel_rfl) (fun K hK => ?_)
  go_simp
  go_at_call 47
  (with_reducible refine (nearD ((p0.bel g0).bel ((((((((((((((Bel.refl _).trans b1).trans b2).alloc (.cells #[.bool (dneg u1), .slice A2 (digs (dm u1)).length c2, .int .i64 (de u1)] 24)).trans b3).alloc (.cells #[.bool (dneg u2), .slice A3 (digs (dm u2)).length c3, .int .i64 (de u2)] 24)).trans b4).trans b5).trans b6).trans b7).drew).trans b8).trans b9).trans b10)) (by omega) (by omega) (r := na) HNA.out).mono ?_); rintro e w11 ⟨rfl, b11⟩
  try go_wp2_with fail
  refine hK.out _ _ (Bel.trans hHeld b11) (fun hHeld => ?_)
  clear hK K
  try simp only [Act.put, List.setIfInBounds_toArray, List.set_cons_zero, List.set_cons_succ]
  refine r_take (i := 20) (v := ?_) rfl (by kernel_rfl) (by kernel_rfl) (by kernel_rfl) (fun _ _ _ h => h) (by kernel_rfl) hHeld ?_ ?_
  rotate_left
  · (intro w hSw; go_simp; try (with_reducible rfl))
  try simp only [Act.put, List.setIfInBounds_toArray, List.set_cons_zero, List.set_cons_succ]
  refine r_take (i := 21) (v := ?_) rfl (by kernel_rfl) (by kernel_rfl) (by kernel_rfl) (fun _ _ _ h => h) (by kernel_rfl) hHeld ?_ ?_
  rotate_left
  · (intro w hSw; go_simp; try (with_reducible rfl))
  try simp only [Act.put, List.setIfInBounds_toArray, List.set_cons_zero, List.set_cons_succ]
  refine r_take (i := 22) (v := ?_) rfl (by kernel_rfl) (by kernel_rfl) (by kernel_rfl) (fun _ _ _ h => h) (by kernel_rfl) hHeld ?_ ?_
  rotate_left
  · (intro w hSw; go_simp; try (with_reducible rfl))
  try simp only [Act.put, List.setIfInBounds_toArray, List.set_cons_zero, List.set_cons_succ]
  refine r_take (i := 23) (v := ?_) rfl (by kernel_rfl) (by kernel_rfl) (by kernel_rfl) (fun _ _ _ h => h) (by kernel_rfl) hHeld ?_ ?_
  rotate_left
  · (intro w hSw; go_simp; try (with_reducible rfl))
  try simp only [Act.put, List.setIfInBounds_toArray, List.set_cons_zero, List.set_cons_succ]
  refine wpAnyH_done (by kernel_rfl) ?_ _
  all_goals
    have HE := Ho.mk (g0.trans (((((((((((((((Bel.refl _).trans b1).trans b2).alloc (.cells #[.bool (dneg u1), .slice A2 (digs (dm u1)).length c2, .int .i64 (de u1)] 24)).trans b3).alloc (.cells #[.bool (dneg u2), .slice A3 (digs (dm u2)).length c3, .int .i64 (de u2)] 24)).trans b4).trans b5).trans b6).trans b7).drew).trans b8).trans b9).trans b10).trans b11))
    go_wp2
    go_ret
    exact ⟨rfl, HE.out⟩
set_option maxRecDepth 100000 in
set_option maxHeartbeats 8000000 in
theorem order_gt_le {A0 : Option Addr} {c0 : Nat} {v0 : Int} {A1 : Option Addr} {c1 : Nat} {v1 : Int} {f g : Nat} (w : World) (T : Tab w) (p0 : Dv w A0 c0 v0 3000 3480) (p1 : Dv w A1 c1 v1 3000 3480) (hf : f < 2 * sgnW) (hg : g < 2 * sgnW) (h1 : frung f < infR) (h2 : frung g < infR) (h3 : V g < V f) (ga : H1.goodB (dneg v0) (digs (dm v0)) (de v0) = true) (gb : H1.goodB (dneg v1) (digs (dm v1)) (de v1) = true) (h4 : v0 ≤ v1) :
    Calls Tryd.prog 12 #[.agg #[.bool (dneg v0), .slice A0 (digs (dm v0)).length c0, .int .i64 (de v0)], .agg #[.bool (dneg v1), .slice A1 (digs (dm v1)).length c1, .int .i64 (de v1)], .float .f64 f, .float .f64 g] w (Tells w (.bool true)) := by
  have TT := Ho.mk T
  have HO1 := Ho.mk (fun (W : World) (gw : Bel w W) => ofD (b := f) hf W (T.bel gw) (v := fv f) (ok := true) (by first | exact fin_of h1 | exact inf_of h1) (by first | exact (decide_eq_true h1).symm | exact (decide_eq_false h1).symm))
  have HO2 := Ho.mk (fun (W : World) (gw : Bel w W) => ofD (b := g) hg W (T.bel gw) (v := fv g) (ok := true) (fin_of h2) (decide_eq_true h2).symm)
  obtain ⟨q1, q2, q3, q4⟩ := ord_gt hf hg h1 h2 h3
  have HRF := Ho.mk q3
  have HBS := Ho.mk q4
  clear q3 q4
  obtain ⟨u1, hu1⟩ : ∃ u : Int, fv f = u := ⟨_, rfl⟩
  rw [hu1] at HO1 HRF HBS
  clear hu1
  obtain ⟨u2, hu2⟩ : ∃ u : Int, fv g = u := ⟨_, rfl⟩
  rw [hu2] at HO2 HRF HBS
  clear hu2
  have HGA := Ho.mk (fun (W : World) (gw : Bel w W) => goodT (dneg v0) A0 c0 (digs (dm v0)) (de v0) W (p0.rd.bel gw) ga)
  have HGB := Ho.mk (fun (W : World) (gw : Bel w W) => goodT (dneg v1) A1 c1 (digs (dm v1)) (de v1) W (p1.rd.bel gw) gb)
  obtain ⟨rd, hrd⟩ : ∃ r, cmpI v0 v1 = r := ⟨_, rfl⟩
  have hrd0 : rd ≤ 0 := by rw [← hrd]; unfold cmpI; split <;> (try split) <;> omega
  have d1 : decide (0 < rd) = false := decide_eq_false (by omega)
  have HRD := Ho.mk hrd
  have cle := near_le h4
  clear hrd
  have cng := near_neg v0
  obtain ⟨na, hna⟩ : ∃ n, nw v0 = n := ⟨_, rfl⟩
  obtain ⟨nb, hnb⟩ : ∃ n, nw v1 = n := ⟨_, rfl⟩
  obtain ⟨nc, hnc⟩ : ∃ n, nw (-v0) = n := ⟨_, rfl⟩
  rw [hna, hnc] at cng
  rw [hna, hnb] at cle
  have hng := fun (W : World) => G9.run_neg na W
  generalize Op.negFloat .f64 na = nd at *
  have HNA := Ho.mk hna
  have HNB := Ho.mk hnb
  have HNC := Ho.mk hnc
  clear hna hnb hnc
  clear T hf hg ga gb h1 h2 h3 h4
  go_enter Tryd.func12, Tryd.ntmps12
  go_wp2_with fail
  have KB0 := Ho.mk ((Blk.new w [.bool (dneg v0), .slice A0 (digs (dm v0)).length c0, .int .i64 (de v0)] 24).old (.cells #[.bool (dneg v1), .slice A1 (digs (dm v1)).length c1, .int .i64 (de v1)] 24))
  have KB1 := Ho.mk (Blk.new (w.alloc (.cells #[.bool (dneg v0), .slice A0 (digs (dm v0)).length c0, .int .i64 (de v0)] 24)) [.bool (dneg v1), .slice A1 (digs (dm v1)).length c1, .int .i64 (de v1)] 24)
  have g0 := ((Bel.refl w).alloc (.cells #[.bool (dneg v0), .slice A0 (digs (dm v0)).length c0, .int .i64 (de v0)] 24)).alloc (.cells #[.bool (dneg v1), .slice A1 (digs (dm v1)).length c1, .int .i64 (de v1)] 24)
  rw [World.size_alloc] at KB1
  have hZ : ((w.alloc (.cells #[.bool (dneg v0), .slice A0 (digs (dm v0)).length c0, .int .i64 (de v0)] 24)).alloc (.cells #[.bool (dneg v1), .slice A1 (digs (dm v1)).length c1, .int .i64 (de v1)] 24)) = ((w.alloc (.cells #[.bool (dneg v0), .slice A0 (digs (dm v0)).length c0, .int .i64 (de v0)] 24)).alloc (.cells #[.bool (dneg v1), .slice A1 (digs (dm v1)).length c1, .int .i64 (de v1)] 24)) := rfl
  generalize ((w.alloc (.cells #[.bool (dneg v0), .slice A0 (digs (dm v0)).length c0, .int .i64 (de v0)] 24)).alloc (.cells #[.bool (dneg v1), .slice A1 (digs (dm v1)).length c1, .int .i64 (de v1)] 24)) = w0 at *
  clear hZ
  (with_reducible refine (headT _ (TT.out.bel (g0.trans (Bel.refl _)))).mono ?_); rintro e w1 ⟨rfl, b1⟩
  go_wp2_with fail
  (with_reducible refine (HO1.out _ (g0.trans ((Bel.refl _).trans b1))).mono ?_); rintro e w2 ⟨A2, c2, rfl, n2, b2⟩
  have KB10 := Ho.mk (Blk.new w2 [.bool (dneg u1), .slice A2 (digs (dm u1)).length c2, .int .i64 (de u1)] 24)
  go_wp2_with fail
  (with_reducible refine (HO2.out _ (g0.trans ((((Bel.refl _).trans b1).trans b2).alloc (.cells #[.bool (dneg u1), .slice A2 (digs (dm u1)).length c2, .int .i64 (de u1)] 24)))).mono ?_); rintro e w3 ⟨A3, c3, rfl, n3, b3⟩
  have KB12 := Ho.mk (Blk.new w3 [.bool (dneg u2), .slice A3 (digs (dm u2)).length c3, .int .i64 (de u2)] 24)
  have KB10_3x := Ho.mk ((KB10.out.bel (((Bel.refl _).trans b3).alloc (.cells #[.bool (dneg u2), .slice A3 (digs (dm u2)).length c3, .int .i64 (de u2)] 24))))
  have yB10_3x_0 := KB10_3x.out.cell (i := 0) rfl
  have yB10_3x_1 := KB10_3x.out.cell (i := 1) rfl
  have yB10_3x_2 := KB10_3x.out.cell (i := 2) rfl
  have KB12_3x := Ho.mk (KB12.out)
  have yB12_3x_0 := KB12_3x.out.cell (i := 0) rfl
  have yB12_3x_1 := KB12_3x.out.cell (i := 1) rfl
  have yB12_3x_2 := KB12_3x.out.cell (i := 2) rfl
  go_wp2_with fail
  (with_reducible refine (F1.rCmp (n2.bel ((((Bel.refl _).alloc (.cells #[.bool (dneg u1), .slice A2 (digs (dm u1)).length c2, .int .i64 (de u1)] 24)).trans b3).alloc (.cells #[.bool (dneg u2), .slice A3 (digs (dm u2)).length c3, .int .i64 (de u2)] 24))) (n3.bel ((Bel.refl _).alloc (.cells #[.bool (dneg u2), .slice A3 (digs (dm u2)).length c3, .int .i64 (de u2)] 24))) (by omega) (by omega) (r := 1) HRF.out).mono ?_); rintro e w4 ⟨rfl, b4⟩
  clear yB10_3x_0 yB10_3x_1 yB10_3x_2 yB12_3x_0 yB12_3x_1 yB12_3x_2
  have KB10_4 := Ho.mk ((KB10_3x.out.bel ((Bel.refl _).trans b4)))
  have yB10_4_0 := KB10_4.out.cell (i := 0) rfl
  have yB10_4_1 := KB10_4.out.cell (i := 1) rfl
  have yB10_4_2 := KB10_4.out.cell (i := 2) rfl
  have KB12_4 := Ho.mk ((KB12_3x.out.bel ((Bel.refl _).trans b4)))
  have yB12_4_0 := KB12_4.out.cell (i := 0) rfl
  have yB12_4_1 := KB12_4.out.cell (i := 1) rfl
  have yB12_4_2 := KB12_4.out.cell (i := 2) rfl
  go_wp2_with fail
  (with_reducible refine (F1.sameB (n2.bel (((((Bel.refl _).alloc (.cells #[.bool (dneg u1), .slice A2 (digs (dm u1)).length c2, .int .i64 (de u1)] 24)).trans b3).alloc (.cells #[.bool (dneg u2), .slice A3 (digs (dm u2)).length c3, .int .i64 (de u2)] 24)).trans b4)) (n3.bel (((Bel.refl _).alloc (.cells #[.bool (dneg u2), .slice A3 (digs (dm u2)).length c3, .int .i64 (de u2)] 24)).trans b4)) (b := false) HBS.out).mono ?_); rintro e w5 ⟨rfl, b5⟩
  clear yB10_4_0 yB10_4_1 yB10_4_2 yB12_4_0 yB12_4_1 yB12_4_2
  have KB4_5 := Ho.mk ((KB0.out.bel ((((((((Bel.refl _).trans b1).trans b2).alloc (.cells #[.bool (dneg u1), .slice A2 (digs (dm u1)).length c2, .int .i64 (de u1)] 24)).trans b3).alloc (.cells #[.bool (dneg u2), .slice A3 (digs (dm u2)).length c3, .int .i64 (de u2)] 24)).trans b4).trans b5)))
  have yB4_5_0 := KB4_5.out.cell (i := 0) rfl
  have yB4_5_1 := KB4_5.out.cell (i := 1) rfl
  have yB4_5_2 := KB4_5.out.cell (i := 2) rfl
  go_wp2_with fail
  (with_reducible refine ((HGA.out _ (g0.trans ((((((((Bel.refl _).trans b1).trans b2).alloc (.cells #[.bool (dneg u1), .slice A2 (digs (dm u1)).length c2, .int .i64 (de u1)] 24)).trans b3).alloc (.cells #[.bool (dneg u2), .slice A3 (digs (dm u2)).length c3, .int .i64 (de u2)] 24)).trans b4).trans b5)))).mono ?_); rintro e w6 ⟨rfl, b6⟩
  clear yB4_5_0 yB4_5_1 yB4_5_2
  have KB5_6 := Ho.mk ((KB1.out.bel (((((((((Bel.refl _).trans b1).trans b2).alloc (.cells #[.bool (dneg u1), .slice A2 (digs (dm u1)).length c2, .int .i64 (de u1)] 24)).trans b3).alloc (.cells #[.bool (dneg u2), .slice A3 (digs (dm u2)).length c3, .int .i64 (de u2)] 24)).trans b4).trans b5).trans b6)))
  have yB5_6_0 := KB5_6.out.cell (i := 0) rfl
  have yB5_6_1 := KB5_6.out.cell (i := 1) rfl
  have yB5_6_2 := KB5_6.out.cell (i := 2) rfl
  go_wp2_with fail
  (with_reducible refine ((HGB.out _ (g0.trans (((((((((Bel.refl _).trans b1).trans b2).alloc (.cells #[.bool (dneg u1), .slice A2 (digs (dm u1)).length c2, .int .i64 (de u1)] 24)).trans b3).alloc (.cells #[.bool (dneg u2), .slice A3 (digs (dm u2)).length c3, .int .i64 (de u2)] 24)).trans b4).trans b5).trans b6)))).mono ?_); rintro e w7 ⟨rfl, b7⟩
  clear yB5_6_0 yB5_6_1 yB5_6_2
  go_wp2_with fail
  have KB4_r8 := Ho.mk ((KB4_5.out.bel (((Bel.refl _).trans b6).trans b7)))
  have yB4_r8_0 := KB4_r8.out.cell (i := 0) rfl
  have yB4_r8_1 := KB4_r8.out.cell (i := 1) rfl
  have yB4_r8_2 := KB4_r8.out.cell (i := 2) rfl
  have KB5_r8 := Ho.mk ((KB5_6.out.bel ((Bel.refl _).trans b7)))
  have yB5_r8_0 := KB5_r8.out.cell (i := 0) rfl
  have yB5_r8_1 := KB5_r8.out.cell (i := 1) rfl
  have yB5_r8_2 := KB5_r8.out.cell (i := 2) rfl
  refine wp_region_held_drew (S := fun w' => Bel w7 w') (by kernel_rfl) (Bel.refl _).drew (fun hHeld => ?_)
  (try dsimp only at hHeld)
  refine r_take (i := 0) (v := ?_) rfl (by kernel_rfl) (by kernel_rfl) (by kernel_rfl) (fun _ _ _ h => h) (by kernel_rfl) hHeld ?_ ?_
  rotate_left
  · (intro w hSw; go_simp; try (with_reducible rfl))
  try simp only [Act.put, List.setIfInBounds_toArray, List.set_cons_zero, List.set_cons_succ]
  refine r_take (i := 1) (v := ?_) rfl (by kernel_rfl) (by kernel_rfl) (by kernel_rfl) (fun _ _ _ h => h) (by kernel_rfl) hHeld ?_ ?_
  rotate_left
  · (intro w hSw; go_simp; try (with_reducible rfl))
  try simp only [Act.put, List.setIfInBounds_toArray, List.set_cons_zero, List.set_cons_succ]
  refine r_take (i := 2) (v := ?_) rfl (by kernel_rfl) (by kernel_rfl) (by kernel_rfl) (fun _ _ _ h => h) (by kernel_rfl) hHeld ?_ ?_
  rotate_left
  · (intro w hSw; have z0 := Bel.cell hSw yB4_r8_0; have z1 := Bel.cell hSw yB4_r8_1; have z2 := Bel.cell hSw yB4_r8_2; go_simp; try (with_reducible rfl))
  try simp only [Act.put, List.setIfInBounds_toArray, List.set_cons_zero, List.set_cons_succ]
  refine r_take (i := 3) (v := ?_) rfl (by kernel_rfl) (by kernel_rfl) (by kernel_rfl) (fun _ _ _ h => h) (by kernel_rfl) hHeld ?_ ?_
  rotate_left
  · (intro w hSw; have z0 := Bel.cell hSw yB5_r8_0; have z1 := Bel.cell hSw yB5_r8_1; have z2 := Bel.cell hSw yB5_r8_2; go_simp; try (with_reducible rfl))
  try simp only [Act.put, List.setIfInBounds_toArray, List.set_cons_zero, List.set_cons_succ]
  refine r_call (i := 4) (by kernel_rfl) rfl (by kernel_rfl) (fun K hK => ?_)
  go_simp
  go_at_call 25
  (with_reducible refine (F1.rCmp ((p0.bel g0).bel (((((((((((Bel.refl _).trans b1).trans b2).alloc (.cells #[.bool (dneg u1), .slice A2 (digs (dm u1)).length c2, .int .i64 (de u1)] 24)).trans b3).alloc (.cells #[.bool (dneg u2), .slice A3 (digs (dm u2)).length c3, .int .i64 (de u2)] 24)).trans b4).trans b5).trans b6).trans b7).drew)) ((p1.bel g0).bel (((((((((((Bel.refl _).trans b1).trans b2).alloc (.cells #[.bool (dneg u1), .slice A2 (digs (dm u1)).length c2, .int .i64 (de u1)] 24)).trans b3).alloc (.cells #[.bool (dneg u2), .slice A3 (digs (dm u2)).length c3, .int .i64 (de u2)] 24)).trans b4).trans b5).trans b6).trans b7).drew)) (by omega) (by omega) (r := rd) HRD.out).mono ?_); rintro e w8 ⟨rfl, b8⟩
  try go_wp2_with fail
  refine hK.out _ _ (Bel.trans hHeld b8) (fun hHeld => ?_)
  clear hK K
  try simp only [Act.put, List.setIfInBounds_toArray, List.set_cons_zero, List.set_cons_succ]
  refine r_take (i := 5) (v := ?_) rfl (by kernel_rfl) (by kernel_rfl) (by kernel_rfl) (fun _ _ _ h => h) (by kernel_rfl) hHeld ?_ ?_
  rotate_left
  · (intro w hSw; go_simp; try (with_reducible rfl))
  try simp only [Act.put, List.setIfInBounds_toArray, List.set_cons_zero, List.set_cons_succ]
  refine r_take (i := 6) (v := ?_) rfl (by kernel_rfl) (by kernel_rfl) (by kernel_rfl) (fun _ _ _ h => h) (by kernel_rfl) hHeld ?_ ?_
  rotate_left
  · (intro w hSw; go_simp; try (with_reducible rfl))
  try simp only [Act.put, List.setIfInBounds_toArray, List.set_cons_zero, List.set_cons_succ]
  refine r_take (i := 7) (v := ?_) rfl (by kernel_rfl) (by kernel_rfl) (by kernel_rfl) (fun _ _ _ h => h) (by kernel_rfl) hHeld ?_ ?_
  rotate_left
  · (intro w hSw; have z0 := Bel.cell hSw yB4_r8_0; have z1 := Bel.cell hSw yB4_r8_1; have z2 := Bel.cell hSw yB4_r8_2; go_simp; try (with_reducible rfl))
  try simp only [Act.put, List.setIfInBounds_toArray, List.set_cons_zero, List.set_cons_succ]
  refine r_take (i := 9) (v := ?_) rfl (by kernel_rfl) (by kernel_rfl) (by kernel_rfl) (fun _ _ _ h => h) (by kernel_rfl) hHeld ?_ ?_
  rotate_left
  · (intro w hSw; have z0 := Bel.cell hSw yB5_r8_0; have z1 := Bel.cell hSw yB5_r8_1; have z2 := Bel.cell hSw yB5_r8_2; go_simp; try (with_reducible rfl))
  try simp only [Act.put, List.setIfInBounds_toArray, List.set_cons_zero, List.set_cons_succ]
  refine r_call (i := 8) (by kernel_rfl) rfl (by kernel_rfl) (fun K hK => ?_)
  go_simp
  go_at_call 47
  (with_reducible refine (nearD ((p0.bel g0).bel ((((((((((((Bel.refl _).trans b1).trans b2).alloc (.cells #[.bool (dneg u1), .slice A2 (digs (dm u1)).length c2, .int .i64 (de u1)] 24)).trans b3).alloc (.cells #[.bool (dneg u2), .slice A3 (digs (dm u2)).length c3, .int .i64 (de u2)] 24)).trans b4).trans b5).trans b6).trans b7).drew).trans b8)) (by omega) (by omega) (r := na) HNA.out).mono ?_); rintro e w9 ⟨rfl, b9⟩
  try go_wp2_with fail
  refine hK.out _ _ (Bel.trans hHeld b9) (fun hHeld => ?_)
  clear hK K
  try simp only [Act.put, List.setIfInBounds_toArray, List.set_cons_zero, List.set_cons_succ]
  refine r_call (i := 10) (by kernel_rfl) rfl (by kernel_rfl) (fun K hK => ?_)
  go_simp
  go_at_call 47
  (with_reducible refine (nearD ((p1.bel g0).bel (((((((((((((Bel.refl _).trans b1).trans b2).alloc (.cells #[.bool (dneg u1), .slice A2 (digs (dm u1)).length c2, .int .i64 (de u1)] 24)).trans b3).alloc (.cells #[.bool (dneg u2), .slice A3 (digs (dm u2)).length c3, .int .i64 (de u2)] 24)).trans b4).trans b5).trans b6).trans b7).drew).trans b8).trans b9)) (by omega) (by omega) (r := nb) HNB.out).mono ?_); rintro e w10 ⟨rfl, b10⟩
  try go_wp2_with fail
  refine hK.out _ _ (Bel.trans hHeld b10) (fun hHeld => ?_)
  clear hK K
  try simp only [Act.put, List.setIfInBounds_toArray, List.set_cons_zero, List.set_cons_succ]
  refine r_take (i := 11) (v := ?_) rfl (by kernel_rfl) (by kernel_rfl) (by kernel_rfl) (fun _ _ _ h => h) (by kernel_rfl) hHeld ?_ ?_
  rotate_left
  · (intro w hSw; go_simp; try (with_reducible rfl))
  try simp only [Act.put, List.setIfInBounds_toArray, List.set_cons_zero, List.set_cons_succ]
  refine r_take (i := 12) (v := ?_) rfl (by kernel_rfl) (by kernel_rfl) (by kernel_rfl) (fun _ _ _ h => h) (by kernel_rfl) hHeld ?_ ?_
  rotate_left
  · (intro w hSw; go_simp; try (with_reducible rfl))
  try simp only [Act.put, List.setIfInBounds_toArray, List.set_cons_zero, List.set_cons_succ]
  refine r_take (i := 13) (v := ?_) rfl (by kernel_rfl) (by kernel_rfl) (by kernel_rfl) (fun _ _ _ h => h) (by kernel_rfl) hHeld ?_ ?_
  rotate_left
  · (intro w hSw; go_simp; try (with_reducible rfl))
  try simp only [Act.put, List.setIfInBounds_toArray, List.set_cons_zero, List.set_cons_succ]
  refine r_take (i := 14) (v := ?_) rfl (by kernel_rfl) (by kernel_rfl) (by kernel_rfl) (fun _ _ _ h => h) (by kernel_rfl) hHeld ?_ ?_
  rotate_left
  · (intro w hSw; go_simp; try (with_reducible rfl))
  try simp only [Act.put, List.setIfInBounds_toArray, List.set_cons_zero, List.set_cons_succ]
  refine r_take (i := 15) (v := ?_) rfl (by kernel_rfl) (by kernel_rfl) (by kernel_rfl) (fun _ _ _ h => h) (by kernel_rfl) hHeld ?_ ?_
  rotate_left
  · (intro w hSw; have z0 := Bel.cell hSw yB4_r8_0; have z1 := Bel.cell hSw yB4_r8_1; have z2 := Bel.cell hSw yB4_r8_2; go_simp; try (with_reducible rfl))
  try simp only [Act.put, List.setIfInBounds_toArray, List.set_cons_zero, List.set_cons_succ]
  refine r_take (i := 18) (v := ?_) rfl (by kernel_rfl) (by kernel_rfl) (by kernel_rfl) (fun _ _ _ h => h) (by kernel_rfl) hHeld ?_ ?_
  rotate_left
  · (intro w hSw; have z0 := Bel.cell hSw yB4_r8_0; have z1 := Bel.cell hSw yB4_r8_1; have z2 := Bel.cell hSw yB4_r8_2; go_simp; try (with_reducible rfl))
  try simp only [Act.put, List.setIfInBounds_toArray, List.set_cons_zero, List.set_cons_succ]
  refine r_call (i := 16) (by kernel_rfl) rfl (by kernel_rfl) (fun K hK => ?_)
  go_simp
  go_at_call 29
  (with_reducible refine (F1.rFlip ((p0.bel g0).bel ((((((((((((((Bel.refl _).trans b1).trans b2).alloc (.cells #[.bool (dneg u1), .slice A2 (digs (dm u1)).length c2, .int .i64 (de u1)] 24)).trans b3).alloc (.cells #[.bool (dneg u2), .slice A3 (digs (dm u2)).length c3, .int .i64 (de u2)] 24)).trans b4).trans b5).trans b6).trans b7).drew).trans b8).trans b9).trans b10))).mono ?_); rintro e w11 ⟨A11, c11, rfl, n11, b11⟩
  try go_wp2_with fail
  refine hK.out _ _ (Bel.trans hHeld b11) (fun hHeld => ?_)
  clear hK K
  try simp only [Act.put, List.setIfInBounds_toArray, List.set_cons_zero, List.set_cons_succ]
  refine r_call (i := 17) (by kernel_rfl) rfl (by kernel_rfl) (fun K hK => ?_)
  go_simp
  go_at_call 47
  (with_reducible refine (nearD n11 (by omega) (by omega) (r := nc) HNC.out).mono ?_); rintro e w12 ⟨rfl, b12⟩
  try go_wp2_with fail
  refine hK.out _ _ (Bel.trans hHeld b12) (fun hHeld => ?_)
  clear hK K
  try simp only [Act.put, List.setIfInBounds_toArray, List.set_cons_zero, List.set_cons_succ]
  refine r_call (i := 19) (by kernel_rfl) rfl (by kernel_rfl) (fun K hK => ?_)
  go_simp
  go_at_call 47
  (with_reducible refine (nearD ((p0.bel g0).bel ((((((((((((((((Bel.refl _).trans b1).trans b2).alloc (.cells #[.bool (dneg u1), .slice A2 (digs (dm u1)).length c2, .int .i64 (de u1)] 24)).trans b3).alloc (.cells #[.bool (dneg u2), .slice A3 (digs (dm u2)).length c3, .int .i64 (de u2)] 24)).trans b4).trans b5).trans b6).trans b7).drew).trans b8).trans b9).trans b10).trans b11).trans b12)) (by omega) (by omega) (r := na) HNA.out).mono ?_); rintro e w13 ⟨rfl, b13⟩
  try go_wp2_with fail
  refine hK.out _ _ (Bel.trans hHeld b13) (fun hHeld => ?_)
  clear hK K
  try simp only [Act.put, List.setIfInBounds_toArray, List.set_cons_zero, List.set_cons_succ]
  refine r_take (i := 20) (v := ?_) rfl (by kernel_rfl) (by kernel_rfl) (by kernel_rfl) (fun _ _ _ h => h) (by kernel_rfl) hHeld ?_ ?_
  rotate_left
  · (intro w hSw; go_simp; try (with_reducible rfl))
  try simp only [Act.put, List.setIfInBounds_toArray, List.set_cons_zero, List.set_cons_succ]
  refine r_take (i := 21) (v := ?_) rfl (by kernel_rfl) (by kernel_rfl) (by kernel_rfl) (fun _ _ _ h => h) (by kernel_rfl) hHeld ?_ ?_
  rotate_left
  · (intro w hSw; go_simp; try (with_reducible rfl))
  try simp only [Act.put, List.setIfInBounds_toArray, List.set_cons_zero, List.set_cons_succ]
  refine r_take (i := 22) (v := ?_) rfl (by kernel_rfl) (by kernel_rfl) (by kernel_rfl) (fun _ _ _ h => h) (by kernel_rfl) hHeld ?_ ?_
  rotate_left
  · (intro w hSw; go_simp; try (with_reducible rfl))
  try simp only [Act.put, List.setIfInBounds_toArray, List.set_cons_zero, List.set_cons_succ]
  refine r_take (i := 23) (v := ?_) rfl (by kernel_rfl) (by kernel_rfl) (by kernel_rfl) (fun _ _ _ h => h) (by kernel_rfl) hHeld ?_ ?_
  rotate_left
  · (intro w hSw; go_simp; try (with_reducible rfl))
  try simp only [Act.put, List.setIfInBounds_toArray, List.set_cons_zero, List.set_cons_succ]
  refine wpAnyH_done (by kernel_rfl) ?_ _
  all_goals
    have HE := Ho.mk (g0.trans (((((((((((((((((Bel.refl _).trans b1).trans b2).alloc (.cells #[.bool (dneg u1), .slice A2 (digs (dm u1)).length c2, .int .i64 (de u1)] 24)).trans b3).alloc (.cells #[.bool (dneg u2), .slice A3 (digs (dm u2)).length c3, .int .i64 (de u2)] 24)).trans b4).trans b5).trans b6).trans b7).drew).trans b8).trans b9).trans b10).trans b11).trans b12).trans b13))
    go_wp2
    go_ret
    exact ⟨rfl, HE.out⟩
theorem order_door (n0 : Bool) (A0 : Option Addr) (c0 : Nat) (l0 : List Int) (e0 : Int) (n1 : Bool) (A1 : Option Addr) (c1 : Nat) (l1 : List Int) (e1 : Int) (f g : Nat) (w : World) (T : Tab w) (h0 : Rd w A0 l0) (k0 : l0.length ≤ c0) (h1 : Rd w A1 l1) (k1 : l1.length ≤ c1) (hf : (Lit.float .f64 f).wf = true) (hg : (Lit.float .f64 g).wf = true) :
    Calls Tryd.prog 12 #[.agg #[.bool n0, .slice A0 l0.length c0, .int .i64 e0], .agg #[.bool n1, .slice A1 l1.length c1, .int .i64 e1], .float .f64 f, .float .f64 g] w (Tells w (.bool true)) := by
  have hf := wf_lt hf
  have hg := wf_lt hg
  have key : ¬ frung f < infR ∨ (frung f < infR ∧ ¬ frung g < infR) ∨ (frung f < infR ∧ frung g < infR ∧ V f < V g) ∨ (frung f < infR ∧ frung g < infR ∧ V f = V g) ∨ (frung f < infR ∧ frung g < infR ∧ V g < V f) := by omega
  cases ga : H1.goodB n0 l0 e0 with
  | false =>
    rcases key with q | ⟨q, r⟩ | ⟨q, r, s⟩ | ⟨q, r, s⟩ | ⟨q, r, s⟩
    · exact order_no1_a0 n0 A0 c0 l0 e0 n1 A1 c1 l1 e1 w T h0 h1 hf hg q ga
    · exact order_no2_a0 n0 A0 c0 l0 e0 n1 A1 c1 l1 e1 w T h0 h1 hf hg q r ga
    · exact order_lt_a0 n0 A0 c0 l0 e0 n1 A1 c1 l1 e1 w T h0 h1 hf hg q r s ga
    · exact order_eq_a0 n0 A0 c0 l0 e0 n1 A1 c1 l1 e1 w T h0 h1 hf hg q r s ga
    · exact order_gt_a0 n0 A0 c0 l0 e0 n1 A1 c1 l1 e1 w T h0 h1 hf hg q r s ga
  | true =>
    cases gb : H1.goodB n1 l1 e1 with
    | false =>
      rcases key with q | ⟨q, r⟩ | ⟨q, r, s⟩ | ⟨q, r, s⟩ | ⟨q, r, s⟩
      · exact order_no1_b0 n0 A0 c0 l0 e0 n1 A1 c1 l1 e1 w T h0 h1 hf hg q ga gb
      · exact order_no2_b0 n0 A0 c0 l0 e0 n1 A1 c1 l1 e1 w T h0 h1 hf hg q r ga gb
      · exact order_lt_b0 n0 A0 c0 l0 e0 n1 A1 c1 l1 e1 w T h0 h1 hf hg q r s ga gb
      · exact order_eq_b0 n0 A0 c0 l0 e0 n1 A1 c1 l1 e1 w T h0 h1 hf hg q r s ga gb
      · exact order_gt_b0 n0 A0 c0 l0 e0 n1 A1 c1 l1 e1 w T h0 h1 hf hg q r s ga gb
    | true =>
      obtain ⟨v0, rfl, rfl, rfl, _, wd0⟩ := H1.good_num ga
      obtain ⟨v1, rfl, rfl, rfl, _, wd1⟩ := H1.good_num gb
      have p0 : Dv w A0 c0 v0 3000 3480 := ⟨k0, h0, wd0⟩
      have p1 : Dv w A1 c1 v1 3000 3480 := ⟨k1, h1, wd1⟩
      rcases Int.lt_or_le v1 v0 with x | x
      · rcases key with q | ⟨q, r⟩ | ⟨q, r, s⟩ | ⟨q, r, s⟩ | ⟨q, r, s⟩
        · exact order_no1_gr w T p0 p1 hf hg q ga gb x
        · exact order_no2_gr w T p0 p1 hf hg q r ga gb x
        · exact order_lt_gr w T p0 p1 hf hg q r s ga gb x
        · exact order_eq_gr w T p0 p1 hf hg q r s ga gb x
        · exact order_gt_gr w T p0 p1 hf hg q r s ga gb x
      · rcases key with q | ⟨q, r⟩ | ⟨q, r, s⟩ | ⟨q, r, s⟩ | ⟨q, r, s⟩
        · exact order_no1_le w T p0 p1 hf hg q ga gb x
        · exact order_no2_le w T p0 p1 hf hg q r ga gb x
        · exact order_lt_le w T p0 p1 hf hg q r s ga gb x
        · exact order_eq_le w T p0 p1 hf hg q r s ga gb x
        · exact order_gt_le w T p0 p1 hf hg q r s ga gb x
end Go.Proofs.YtnmjnjhijcnbcaaDoor.H6
