/-
  The walk of FloNext (its steps are printed by gen2.py).
-/
import Derived.Test.YtnmjnjhijcnbcaaDoorH4
import Derived.Deep.RegionHeld3
import Derived.Deep.DrawnRows
import Derived.Deep.DeepCutAuto
set_option linter.unusedVariables false
set_option linter.unusedSimpArgs false
namespace Go.Proofs.YtnmjnjhijcnbcaaDoor.H9
open Ieee Go Go.RowKit Go.Proofs.YtnmjnjhijcnbcaaDoor Go.Proofs.YtnmjnjhijcnbcaaDoor.Ow Go.Proofs.YtnmjnjhijcnbcaaDoor.Pl Go.Proofs.YtnmjnjhijcnbcaaDoor.Dp Go.Proofs.YtnmjnjhijcnbcaaDoor.Dt Go.Proofs.YtnmjnjhijcnbcaaDoor.Gp Go.Proofs.YtnmjnjhijcnbcaaDoor.Gq Go.Proofs.YtnmjnjhijcnbcaaDoor.Gr Go.Proofs.YtnmjnjhijcnbcaaDoor.G1 Go.Proofs.YtnmjnjhijcnbcaaDoor.G3 Go.Proofs.YtnmjnjhijcnbcaaDoor.G5 Go.Proofs.YtnmjnjhijcnbcaaDoor.G7 Go.Proofs.YtnmjnjhijcnbcaaDoor.E7 Go.Proofs.YtnmjnjhijcnbcaaDoor.F1 Go.Proofs.YtnmjnjhijcnbcaaDoor.H0 Go.Proofs.YtnmjnjhijcnbcaaDoor.H4

attribute [local go_sem ↓] Go.wp_at_zero Go.wp_at_succ
theorem rShiftE {w : World} {A : Option Addr} {c : Nat} {u r : Int} {L U : Nat} (h : Dv w A c u L U) (e : shiftD u (-1) = r) (h1 : L + U ≤ 20000) (hN : L + 1 ≤ 20000) :
    Calls Tryd.prog 31 #[.agg #[.bool (dneg u), .slice A (digs (dm u)).length c, .int .i64 (de u)], .int .i64 (-1)] w (MakesD w r (L + 1) (U + 1)) := by
  subst e; exact F1.rShift h (-1) 1 h1 (by omega) (by omega) hN
set_option maxRecDepth 100000 in
set_option maxHeartbeats 8000000 in
theorem next_nan (n0 : Bool) (A0 : Option Addr) (c0 : Nat) (l0 : List Int) (e0 : Int) {f g : Nat} {u1 u2 : Int} {k1 k2 : Bool} (w : World) (T : Tab w) (hr0 : Rd w A0 l0) (hf : f < 2 * sgnW) (hg : g < 2 * sgnW) (hx : nxw f = g)
    (hv1 : u1 = if frung f < infR then fv f else 0) (hk1 : k1 = decide (frung f < infR)) (hv2 : u2 = if frung g < infR then fv g else 0) (hk2 : k2 = decide (frung g < infR)) (k0 : k1 = false) (q0 : (FloatKind.f64.format.order f f != some .eq) = true) (q1 : (FloatKind.f64.format.order g g != some .eq) = true) :
    Calls Tryd.prog 13 #[.float .f64 f, .agg #[.bool n0, .slice A0 l0.length c0, .int .i64 e0]] w (Tells w (.bool true)) := by
  have TT := Ho.mk T
  have HF := Ho.mk hf
  have HX := Ho.mk hx
  have HO1 := Ho.mk (fun (W : World) (gw : Bel w W) => ofD (b := f) hf W (T.bel gw) (v := u1) (ok := k1) hv1 hk1)
  have HO2 := Ho.mk (fun (W : World) (gw : Bel w W) => ofD (b := g) hg W (T.bel gw) (v := u2) (ok := k2) hv2 hk2)
  subst k0
  clear T hf hg hx hv1 hk1 hv2 hk2
  go_enter Tryd.func13, Tryd.ntmps13
  go_wp2_with fail
  have KB0 := Ho.mk (Blk.new w [.bool n0, .slice A0 l0.length c0, .int .i64 e0] 24)
  have g0 := (Bel.refl w).alloc (.cells #[.bool n0, .slice A0 l0.length c0, .int .i64 e0] 24)
  have hZ : (w.alloc (.cells #[.bool n0, .slice A0 l0.length c0, .int .i64 e0] 24)) = (w.alloc (.cells #[.bool n0, .slice A0 l0.length c0, .int .i64 e0] 24)) := rfl
  generalize (w.alloc (.cells #[.bool n0, .slice A0 l0.length c0, .int .i64 e0] 24)) = w0 at *
  clear hZ
  (with_reducible refine (headT _ (TT.out.bel (g0.trans (Bel.refl _)))).mono ?_); rintro e w1 ⟨rfl, b1⟩
  go_wp2_with fail
  (with_reducible refine (HO1.out _ (g0.trans ((Bel.refl _).trans b1))).mono ?_); rintro e w2 ⟨A2, c2, rfl, n2, b2⟩
  have KB6 := Ho.mk (Blk.new w2 [.bool (dneg u1), .slice A2 (digs (dm u1)).length c2, .int .i64 (de u1)] 24)
  go_wp2_with fail
  (with_reducible refine (nextT HF.out _ HX.out).mono ?_); rintro e w3 ⟨rfl, b3⟩
  go_wp2_with fail
  (with_reducible refine (HO2.out _ (g0.trans (((((Bel.refl _).trans b1).trans b2).alloc (.cells #[.bool (dneg u1), .slice A2 (digs (dm u1)).length c2, .int .i64 (de u1)] 24)).trans b3))).mono ?_); rintro e w4 ⟨A4, c4, rfl, n4, b4⟩
  have KB9 := Ho.mk (Blk.new w4 [.bool (dneg u2), .slice A4 (digs (dm u2)).length c4, .int .i64 (de u2)] 24)
  all_goals
    have HE := Ho.mk (g0.trans (((((((Bel.refl _).trans b1).trans b2).alloc (.cells #[.bool (dneg u1), .slice A2 (digs (dm u1)).length c2, .int .i64 (de u1)] 24)).trans b3).trans b4).alloc (.cells #[.bool (dneg u2), .slice A4 (digs (dm u2)).length c4, .int .i64 (de u2)] 24)))
    go_wp2
    go_ret
    exact ⟨rfl, HE.out⟩
set_option maxRecDepth 100000 in
set_option maxHeartbeats 8000000 in
theorem next_pinf (n0 : Bool) (A0 : Option Addr) (c0 : Nat) (l0 : List Int) (e0 : Int) {f g : Nat} {u1 u2 : Int} {k1 k2 : Bool} (w : World) (T : Tab w) (hr0 : Rd w A0 l0) (hf : f < 2 * sgnW) (hg : g < 2 * sgnW) (hx : nxw f = g)
    (hv1 : u1 = if frung f < infR then fv f else 0) (hk1 : k1 = decide (frung f < infR)) (hv2 : u2 = if frung g < infR then fv g else 0) (hk2 : k2 = decide (frung g < infR)) (k0 : k1 = false) (q0 : (FloatKind.f64.format.order f f != some .eq) = false) (q1 : (FloatKind.f64.format.order f 0 == some .gt) = true) (q2 : (FloatKind.f64.format.order g f == some .eq) = true) :
    Calls Tryd.prog 13 #[.float .f64 f, .agg #[.bool n0, .slice A0 l0.length c0, .int .i64 e0]] w (Tells w (.bool true)) := by
  have TT := Ho.mk T
  have HF := Ho.mk hf
  have HX := Ho.mk hx
  have HO1 := Ho.mk (fun (W : World) (gw : Bel w W) => ofD (b := f) hf W (T.bel gw) (v := u1) (ok := k1) hv1 hk1)
  have HO2 := Ho.mk (fun (W : World) (gw : Bel w W) => ofD (b := g) hg W (T.bel gw) (v := u2) (ok := k2) hv2 hk2)
  subst k0
  clear T hf hg hx hv1 hk1 hv2 hk2
  go_enter Tryd.func13, Tryd.ntmps13
  go_wp2_with fail
  have KB0 := Ho.mk (Blk.new w [.bool n0, .slice A0 l0.length c0, .int .i64 e0] 24)
  have g0 := (Bel.refl w).alloc (.cells #[.bool n0, .slice A0 l0.length c0, .int .i64 e0] 24)
  have hZ : (w.alloc (.cells #[.bool n0, .slice A0 l0.length c0, .int .i64 e0] 24)) = (w.alloc (.cells #[.bool n0, .slice A0 l0.length c0, .int .i64 e0] 24)) := rfl
  generalize (w.alloc (.cells #[.bool n0, .slice A0 l0.length c0, .int .i64 e0] 24)) = w0 at *
  clear hZ
  (with_reducible refine (headT _ (TT.out.bel (g0.trans (Bel.refl _)))).mono ?_); rintro e w1 ⟨rfl, b1⟩
  go_wp2_with fail
  (with_reducible refine (HO1.out _ (g0.trans ((Bel.refl _).trans b1))).mono ?_); rintro e w2 ⟨A2, c2, rfl, n2, b2⟩
  have KB6 := Ho.mk (Blk.new w2 [.bool (dneg u1), .slice A2 (digs (dm u1)).length c2, .int .i64 (de u1)] 24)
  go_wp2_with fail
  (with_reducible refine (nextT HF.out _ HX.out).mono ?_); rintro e w3 ⟨rfl, b3⟩
  go_wp2_with fail
  (with_reducible refine (HO2.out _ (g0.trans (((((Bel.refl _).trans b1).trans b2).alloc (.cells #[.bool (dneg u1), .slice A2 (digs (dm u1)).length c2, .int .i64 (de u1)] 24)).trans b3))).mono ?_); rintro e w4 ⟨A4, c4, rfl, n4, b4⟩
  have KB9 := Ho.mk (Blk.new w4 [.bool (dneg u2), .slice A4 (digs (dm u2)).length c4, .int .i64 (de u2)] 24)
  all_goals
    have HE := Ho.mk (g0.trans (((((((Bel.refl _).trans b1).trans b2).alloc (.cells #[.bool (dneg u1), .slice A2 (digs (dm u1)).length c2, .int .i64 (de u1)] 24)).trans b3).trans b4).alloc (.cells #[.bool (dneg u2), .slice A4 (digs (dm u2)).length c4, .int .i64 (de u2)] 24)))
    go_wp2
    go_ret
    exact ⟨rfl, HE.out⟩
set_option maxRecDepth 100000 in
set_option maxHeartbeats 8000000 in
theorem next_minf (n0 : Bool) (A0 : Option Addr) (c0 : Nat) (l0 : List Int) (e0 : Int) {f g : Nat} {u1 u2 : Int} {k1 k2 : Bool} (w : World) (T : Tab w) (hr0 : Rd w A0 l0) (hf : f < 2 * sgnW) (hg : g < 2 * sgnW) (hx : nxw f = g)
    (hv1 : u1 = if frung f < infR then fv f else 0) (hk1 : k1 = decide (frung f < infR)) (hv2 : u2 = if frung g < infR then fv g else 0) (hk2 : k2 = decide (frung g < infR)) (k0 : k1 = false) (q0 : (FloatKind.f64.format.order f f != some .eq) = false) (q1 : (FloatKind.f64.format.order f 0 == some .gt) = false) (q2 : (FloatKind.f64.format.order f 0 == some .lt) = true) (q3 : (FloatKind.f64.format.order g 18442240474082181119 == some .eq) = true) :
    Calls Tryd.prog 13 #[.float .f64 f, .agg #[.bool n0, .slice A0 l0.length c0, .int .i64 e0]] w (Tells w (.bool true)) := by
  have TT := Ho.mk T
  have HF := Ho.mk hf
  have HX := Ho.mk hx
  have HO1 := Ho.mk (fun (W : World) (gw : Bel w W) => ofD (b := f) hf W (T.bel gw) (v := u1) (ok := k1) hv1 hk1)
  have HO2 := Ho.mk (fun (W : World) (gw : Bel w W) => ofD (b := g) hg W (T.bel gw) (v := u2) (ok := k2) hv2 hk2)
  subst k0
  clear T hf hg hx hv1 hk1 hv2 hk2
  go_enter Tryd.func13, Tryd.ntmps13
  go_wp2_with fail
  have KB0 := Ho.mk (Blk.new w [.bool n0, .slice A0 l0.length c0, .int .i64 e0] 24)
  have g0 := (Bel.refl w).alloc (.cells #[.bool n0, .slice A0 l0.length c0, .int .i64 e0] 24)
  have hZ : (w.alloc (.cells #[.bool n0, .slice A0 l0.length c0, .int .i64 e0] 24)) = (w.alloc (.cells #[.bool n0, .slice A0 l0.length c0, .int .i64 e0] 24)) := rfl
  generalize (w.alloc (.cells #[.bool n0, .slice A0 l0.length c0, .int .i64 e0] 24)) = w0 at *
  clear hZ
  (with_reducible refine (headT _ (TT.out.bel (g0.trans (Bel.refl _)))).mono ?_); rintro e w1 ⟨rfl, b1⟩
  go_wp2_with fail
  (with_reducible refine (HO1.out _ (g0.trans ((Bel.refl _).trans b1))).mono ?_); rintro e w2 ⟨A2, c2, rfl, n2, b2⟩
  have KB6 := Ho.mk (Blk.new w2 [.bool (dneg u1), .slice A2 (digs (dm u1)).length c2, .int .i64 (de u1)] 24)
  go_wp2_with fail
  (with_reducible refine (nextT HF.out _ HX.out).mono ?_); rintro e w3 ⟨rfl, b3⟩
  go_wp2_with fail
  (with_reducible refine (HO2.out _ (g0.trans (((((Bel.refl _).trans b1).trans b2).alloc (.cells #[.bool (dneg u1), .slice A2 (digs (dm u1)).length c2, .int .i64 (de u1)] 24)).trans b3))).mono ?_); rintro e w4 ⟨A4, c4, rfl, n4, b4⟩
  have KB9 := Ho.mk (Blk.new w4 [.bool (dneg u2), .slice A4 (digs (dm u2)).length c4, .int .i64 (de u2)] 24)
  all_goals
    have HE := Ho.mk (g0.trans (((((((Bel.refl _).trans b1).trans b2).alloc (.cells #[.bool (dneg u1), .slice A2 (digs (dm u1)).length c2, .int .i64 (de u1)] 24)).trans b3).trans b4).alloc (.cells #[.bool (dneg u2), .slice A4 (digs (dm u2)).length c4, .int .i64 (de u2)] 24)))
    go_wp2
    go_ret
    exact ⟨rfl, HE.out⟩
set_option maxRecDepth 100000 in
set_option maxHeartbeats 8000000 in
theorem next_max (n0 : Bool) (A0 : Option Addr) (c0 : Nat) (l0 : List Int) (e0 : Int) {f g : Nat} {u1 u2 : Int} {k1 k2 : Bool} (w : World) (T : Tab w) (hr0 : Rd w A0 l0) (hf : f < 2 * sgnW) (hg : g < 2 * sgnW) (hx : nxw f = g)
    (hv1 : u1 = if frung f < infR then fv f else 0) (hk1 : k1 = decide (frung f < infR)) (hv2 : u2 = if frung g < infR then fv g else 0) (hk2 : k2 = decide (frung g < infR)) (k0 : k1 = true) (k3 : k2 = false) (q0 : (FloatKind.f64.format.order f 9218868437227405311 == some .eq) = true) (q1 : (FloatKind.f64.format.order g f == some .gt) = true) :
    Calls Tryd.prog 13 #[.float .f64 f, .agg #[.bool n0, .slice A0 l0.length c0, .int .i64 e0]] w (Tells w (.bool true)) := by
  have TT := Ho.mk T
  have HF := Ho.mk hf
  have HX := Ho.mk hx
  have HO1 := Ho.mk (fun (W : World) (gw : Bel w W) => ofD (b := f) hf W (T.bel gw) (v := u1) (ok := k1) hv1 hk1)
  have HO2 := Ho.mk (fun (W : World) (gw : Bel w W) => ofD (b := g) hg W (T.bel gw) (v := u2) (ok := k2) hv2 hk2)
  subst k0 k3
  clear T hf hg hx hv1 hk1 hv2 hk2
  go_enter Tryd.func13, Tryd.ntmps13
  go_wp2_with fail
  have KB0 := Ho.mk (Blk.new w [.bool n0, .slice A0 l0.length c0, .int .i64 e0] 24)
  have g0 := (Bel.refl w).alloc (.cells #[.bool n0, .slice A0 l0.length c0, .int .i64 e0] 24)
  have hZ : (w.alloc (.cells #[.bool n0, .slice A0 l0.length c0, .int .i64 e0] 24)) = (w.alloc (.cells #[.bool n0, .slice A0 l0.length c0, .int .i64 e0] 24)) := rfl
  generalize (w.alloc (.cells #[.bool n0, .slice A0 l0.length c0, .int .i64 e0] 24)) = w0 at *
  clear hZ
  (with_reducible refine (headT _ (TT.out.bel (g0.trans (Bel.refl _)))).mono ?_); rintro e w1 ⟨rfl, b1⟩
  go_wp2_with fail
  (with_reducible refine (HO1.out _ (g0.trans ((Bel.refl _).trans b1))).mono ?_); rintro e w2 ⟨A2, c2, rfl, n2, b2⟩
  have KB6 := Ho.mk (Blk.new w2 [.bool (dneg u1), .slice A2 (digs (dm u1)).length c2, .int .i64 (de u1)] 24)
  go_wp2_with fail
  (with_reducible refine (nextT HF.out _ HX.out).mono ?_); rintro e w3 ⟨rfl, b3⟩
  go_wp2_with fail
  (with_reducible refine (HO2.out _ (g0.trans (((((Bel.refl _).trans b1).trans b2).alloc (.cells #[.bool (dneg u1), .slice A2 (digs (dm u1)).length c2, .int .i64 (de u1)] 24)).trans b3))).mono ?_); rintro e w4 ⟨A4, c4, rfl, n4, b4⟩
  have KB9 := Ho.mk (Blk.new w4 [.bool (dneg u2), .slice A4 (digs (dm u2)).length c4, .int .i64 (de u2)] 24)
  all_goals
    have HE := Ho.mk (g0.trans (((((((Bel.refl _).trans b1).trans b2).alloc (.cells #[.bool (dneg u1), .slice A2 (digs (dm u1)).length c2, .int .i64 (de u1)] 24)).trans b3).trans b4).alloc (.cells #[.bool (dneg u2), .slice A4 (digs (dm u2)).length c4, .int .i64 (de u2)] 24)))
    go_wp2
    go_ret
    exact ⟨rfl, HE.out⟩
set_option maxRecDepth 100000 in
set_option maxHeartbeats 8000000 in
theorem next_off (n0 : Bool) (A0 : Option Addr) (c0 : Nat) (l0 : List Int) (e0 : Int) {f g : Nat} {u1 u2 : Int} {k1 k2 : Bool} (w : World) (T : Tab w) (hr0 : Rd w A0 l0) (hf : f < 2 * sgnW) (hg : g < 2 * sgnW) (hx : nxw f = g)
    (hv1 : u1 = if frung f < infR then fv f else 0) (hk1 : k1 = decide (frung f < infR)) (hv2 : u2 = if frung g < infR then fv g else 0) (hk2 : k2 = decide (frung g < infR)) (hgd : H1.goodB n0 l0 e0 = false) (e1 : k1 = true) (e2 : k2 = true) (q0 : (FloatKind.f64.format.order g f == some .gt) = true) (nh : Nat) (hnh : nw (shiftD (u1 + u2) (-1)) = nh)
    (hq : (FloatKind.f64.format.order nh f != some .eq) = false ∨ ((FloatKind.f64.format.order nh f != some .eq) = true ∧ (FloatKind.f64.format.order nh g != some .eq) = false)) :
    Calls Tryd.prog 13 #[.float .f64 f, .agg #[.bool n0, .slice A0 l0.length c0, .int .i64 e0]] w (Tells w (.bool true)) := by
  have TT := Ho.mk T
  have HF := Ho.mk hf
  have HX := Ho.mk hx
  have HO1 := Ho.mk (fun (W : World) (gw : Bel w W) => ofD (b := f) hf W (T.bel gw) (v := u1) (ok := k1) hv1 hk1)
  have HO2 := Ho.mk (fun (W : World) (gw : Bel w W) => ofD (b := g) hg W (T.bel gw) (v := u2) (ok := k2) hv2 hk2)
  have HG := Ho.mk (fun (W : World) (gw : Bel w W) => goodT n0 A0 c0 l0 e0 W (hr0.bel gw) hgd)
  subst e1 e2
  obtain ⟨hh, hhh⟩ : ∃ h, shiftD (u1 + u2) (-1) = h := ⟨_, rfl⟩
  have HHH := Ho.mk hhh
  rw [hhh] at hnh
  have HNH := Ho.mk hnh
  clear T hf hg hx hv1 hk1 hv2 hk2 hgd hhh hnh
  rcases hq with q1 | ⟨q1, q2⟩
  all_goals
    go_enter Tryd.func13, Tryd.ntmps13
    go_wp2_with fail
    have KB0 := Ho.mk (Blk.new w [.bool n0, .slice A0 l0.length c0, .int .i64 e0] 24)
    have g0 := (Bel.refl w).alloc (.cells #[.bool n0, .slice A0 l0.length c0, .int .i64 e0] 24)
    have hZ : (w.alloc (.cells #[.bool n0, .slice A0 l0.length c0, .int .i64 e0] 24)) = (w.alloc (.cells #[.bool n0, .slice A0 l0.length c0, .int .i64 e0] 24)) := rfl
    generalize (w.alloc (.cells #[.bool n0, .slice A0 l0.length c0, .int .i64 e0] 24)) = w0 at *
    clear hZ
    (with_reducible refine (headT _ (TT.out.bel (g0.trans (Bel.refl _)))).mono ?_); rintro e w1 ⟨rfl, b1⟩
    go_wp2_with fail
    (with_reducible refine (HO1.out _ (g0.trans ((Bel.refl _).trans b1))).mono ?_); rintro e w2 ⟨A2, c2, rfl, n2, b2⟩
    have KB6 := Ho.mk (Blk.new w2 [.bool (dneg u1), .slice A2 (digs (dm u1)).length c2, .int .i64 (de u1)] 24)
    go_wp2_with fail
    (with_reducible refine (nextT HF.out _ HX.out).mono ?_); rintro e w3 ⟨rfl, b3⟩
    go_wp2_with fail
    (with_reducible refine (HO2.out _ (g0.trans (((((Bel.refl _).trans b1).trans b2).alloc (.cells #[.bool (dneg u1), .slice A2 (digs (dm u1)).length c2, .int .i64 (de u1)] 24)).trans b3))).mono ?_); rintro e w4 ⟨A4, c4, rfl, n4, b4⟩
    have KB9 := Ho.mk (Blk.new w4 [.bool (dneg u2), .slice A4 (digs (dm u2)).length c4, .int .i64 (de u2)] 24)
    have KB6_4x := Ho.mk ((KB6.out.bel ((((Bel.refl _).trans b3).trans b4).alloc (.cells #[.bool (dneg u2), .slice A4 (digs (dm u2)).length c4, .int .i64 (de u2)] 24))))
    have yB6_4x_0 := KB6_4x.out.cell (i := 0) rfl
    have yB6_4x_1 := KB6_4x.out.cell (i := 1) rfl
    have yB6_4x_2 := KB6_4x.out.cell (i := 2) rfl
    have KB9_4x := Ho.mk (KB9.out)
    have yB9_4x_0 := KB9_4x.out.cell (i := 0) rfl
    have yB9_4x_1 := KB9_4x.out.cell (i := 1) rfl
    have yB9_4x_2 := KB9_4x.out.cell (i := 2) rfl
    go_wp2_with fail
    (with_reducible refine (F1.rAdd (n2.bel (((((Bel.refl _).alloc (.cells #[.bool (dneg u1), .slice A2 (digs (dm u1)).length c2, .int .i64 (de u1)] 24)).trans b3).trans b4).alloc (.cells #[.bool (dneg u2), .slice A4 (digs (dm u2)).length c4, .int .i64 (de u2)] 24))) (n4.bel ((Bel.refl _).alloc (.cells #[.bool (dneg u2), .slice A4 (digs (dm u2)).length c4, .int .i64 (de u2)] 24))) (by omega) (by omega)).mono ?_); rintro e w5 ⟨A5, c5, rfl, n5, b5⟩
    clear yB6_4x_0 yB6_4x_1 yB6_4x_2 yB9_4x_0 yB9_4x_1 yB9_4x_2
    go_wp2_with fail
    (with_reducible refine (H9.rShiftE n5 HHH.out (by omega) (by omega)).mono ?_); rintro e w6 ⟨A6, c6, rfl, n6, b6⟩
    have KB11 := Ho.mk (Blk.new w6 [.bool (dneg hh), .slice A6 (digs (dm hh)).length c6, .int .i64 (de hh)] 24)
    have KB11_6x := Ho.mk (KB11.out)
    have yB11_6x_0 := KB11_6x.out.cell (i := 0) rfl
    have yB11_6x_1 := KB11_6x.out.cell (i := 1) rfl
    have yB11_6x_2 := KB11_6x.out.cell (i := 2) rfl
    go_wp2_with fail
    (with_reducible refine (nearD (n6.bel ((Bel.refl _).alloc (.cells #[.bool (dneg hh), .slice A6 (digs (dm hh)).length c6, .int .i64 (de hh)] 24))) (by omega) (by omega) (r := nh) HNH.out).mono ?_); rintro e w7 ⟨rfl, b7⟩
    clear yB11_6x_0 yB11_6x_1 yB11_6x_2
    have KB3_7 := Ho.mk ((KB0.out.bel (((((((((((Bel.refl _).trans b1).trans b2).alloc (.cells #[.bool (dneg u1), .slice A2 (digs (dm u1)).length c2, .int .i64 (de u1)] 24)).trans b3).trans b4).alloc (.cells #[.bool (dneg u2), .slice A4 (digs (dm u2)).length c4, .int .i64 (de u2)] 24)).trans b5).trans b6).alloc (.cells #[.bool (dneg hh), .slice A6 (digs (dm hh)).length c6, .int .i64 (de hh)] 24)).trans b7)))
    have yB3_7_0 := KB3_7.out.cell (i := 0) rfl
    have yB3_7_1 := KB3_7.out.cell (i := 1) rfl
    have yB3_7_2 := KB3_7.out.cell (i := 2) rfl
    go_wp2_with fail
    (with_reducible refine ((HG.out _ (g0.trans (((((((((((Bel.refl _).trans b1).trans b2).alloc (.cells #[.bool (dneg u1), .slice A2 (digs (dm u1)).length c2, .int .i64 (de u1)] 24)).trans b3).trans b4).alloc (.cells #[.bool (dneg u2), .slice A4 (digs (dm u2)).length c4, .int .i64 (de u2)] 24)).trans b5).trans b6).alloc (.cells #[.bool (dneg hh), .slice A6 (digs (dm hh)).length c6, .int .i64 (de hh)] 24)).trans b7)))).mono ?_); rintro e w8 ⟨rfl, b8⟩
    clear yB3_7_0 yB3_7_1 yB3_7_2
    all_goals
      have HE := Ho.mk (g0.trans ((((((((((((Bel.refl _).trans b1).trans b2).alloc (.cells #[.bool (dneg u1), .slice A2 (digs (dm u1)).length c2, .int .i64 (de u1)] 24)).trans b3).trans b4).alloc (.cells #[.bool (dneg u2), .slice A4 (digs (dm u2)).length c4, .int .i64 (de u2)] 24)).trans b5).trans b6).alloc (.cells #[.bool (dneg hh), .slice A6 (digs (dm hh)).length c6, .int .i64 (de hh)] 24)).trans b7).trans b8))
      go_wp2
      go_ret
      exact ⟨rfl, HE.out⟩
set_option maxRecDepth 100000 in
set_option maxHeartbeats 8000000 in
theorem next_p1 {A0 : Option Addr} {c0 : Nat} {v0 : Int} {f g : Nat} {u1 u2 : Int} {k1 k2 : Bool} (w : World) (T : Tab w) (p0 : Dv w A0 c0 v0 3000 3480) (hf : f < 2 * sgnW) (hg : g < 2 * sgnW) (hx : nxw f = g)
    (hv1 : u1 = if frung f < infR then fv f else 0) (hk1 : k1 = decide (frung f < infR)) (hv2 : u2 = if frung g < infR then fv g else 0) (hk2 : k2 = decide (frung g < infR)) (hgd : H1.goodB (dneg v0) (digs (dm v0)) (de v0) = true) (e1 : k1 = true) (e2 : k2 = true) (q0 : (FloatKind.f64.format.order g f == some .gt) = true) (nh : Nat) (hnh : nw (shiftD (u1 + u2) (-1)) = nh)
    (hq : (FloatKind.f64.format.order nh f != some .eq) = false ∨ ((FloatKind.f64.format.order nh f != some .eq) = true ∧ (FloatKind.f64.format.order nh g != some .eq) = false))
    (nd : Nat) (cu ct ch : Int) (hcu : cmpI v0 u1 = cu) (hct : cmpI v0 u2 = ct) (hch : cmpI v0 (shiftD (u1 + u2) (-1)) = ch) (hnd : nw v0 = nd) (dcu0 : decide (cu < 0) = true) (dcu1 : decide (0 < cu) = false) (dcu2 : decide (cu ≤ 0) = true) (dcu3 : decide (0 ≤ cu) = false) (dch0 : decide (ch < 0) = true) (dch1 : decide (0 < ch) = false) (dch2 : decide (ch ≤ 0) = true) (dch3 : decide (0 ≤ ch) = false) :
    Calls Tryd.prog 13 #[.float .f64 f, .agg #[.bool (dneg v0), .slice A0 (digs (dm v0)).length c0, .int .i64 (de v0)]] w (Tells w (.bool true)) := by
  have TT := Ho.mk T
  have HF := Ho.mk hf
  have HX := Ho.mk hx
  have HO1 := Ho.mk (fun (W : World) (gw : Bel w W) => ofD (b := f) hf W (T.bel gw) (v := u1) (ok := k1) hv1 hk1)
  have HO2 := Ho.mk (fun (W : World) (gw : Bel w W) => ofD (b := g) hg W (T.bel gw) (v := u2) (ok := k2) hv2 hk2)
  have HG := Ho.mk (fun (W : World) (gw : Bel w W) => goodT (dneg v0) A0 c0 (digs (dm v0)) (de v0) W (p0.rd.bel gw) hgd)
  subst e1 e2
  obtain ⟨hh, hhh⟩ : ∃ h, shiftD (u1 + u2) (-1) = h := ⟨_, rfl⟩
  have HHH := Ho.mk hhh
  rw [hhh] at hnh
  have HNH := Ho.mk hnh
  rw [hhh] at hch
  have HCU := Ho.mk hcu
  have HCT := Ho.mk hct
  have HCH := Ho.mk hch
  have HND := Ho.mk hnd
  clear hcu hct hch hnd
  clear T hf hg hx hv1 hk1 hv2 hk2 hgd hhh hnh
  rcases hq with q1 | ⟨q1, q2⟩
  all_goals
    go_enter Tryd.func13, Tryd.ntmps13
    go_wp2_with fail
    have KB0 := Ho.mk (Blk.new w [.bool (dneg v0), .slice A0 (digs (dm v0)).length c0, .int .i64 (de v0)] 24)
    have g0 := (Bel.refl w).alloc (.cells #[.bool (dneg v0), .slice A0 (digs (dm v0)).length c0, .int .i64 (de v0)] 24)
    have hZ : (w.alloc (.cells #[.bool (dneg v0), .slice A0 (digs (dm v0)).length c0, .int .i64 (de v0)] 24)) = (w.alloc (.cells #[.bool (dneg v0), .slice A0 (digs (dm v0)).length c0, .int .i64 (de v0)] 24)) := rfl
    generalize (w.alloc (.cells #[.bool (dneg v0), .slice A0 (digs (dm v0)).length c0, .int .i64 (de v0)] 24)) = w0 at *
    clear hZ
    (with_reducible refine (headT _ (TT.out.bel (g0.trans (Bel.refl _)))).mono ?_); rintro e w1 ⟨rfl, b1⟩
    go_wp2_with fail
    (with_reducible refine (HO1.out _ (g0.trans ((Bel.refl _).trans b1))).mono ?_); rintro e w2 ⟨A2, c2, rfl, n2, b2⟩
    have KB6 := Ho.mk (Blk.new w2 [.bool (dneg u1), .slice A2 (digs (dm u1)).length c2, .int .i64 (de u1)] 24)
    go_wp2_with fail
    (with_reducible refine (nextT HF.out _ HX.out).mono ?_); rintro e w3 ⟨rfl, b3⟩
    go_wp2_with fail
    (with_reducible refine (HO2.out _ (g0.trans (((((Bel.refl _).trans b1).trans b2).alloc (.cells #[.bool (dneg u1), .slice A2 (digs (dm u1)).length c2, .int .i64 (de u1)] 24)).trans b3))).mono ?_); rintro e w4 ⟨A4, c4, rfl, n4, b4⟩
    have KB9 := Ho.mk (Blk.new w4 [.bool (dneg u2), .slice A4 (digs (dm u2)).length c4, .int .i64 (de u2)] 24)
    have KB6_4x := Ho.mk ((KB6.out.bel ((((Bel.refl _).trans b3).trans b4).alloc (.cells #[.bool (dneg u2), .slice A4 (digs (dm u2)).length c4, .int .i64 (de u2)] 24))))
    have yB6_4x_0 := KB6_4x.out.cell (i := 0) rfl
    have yB6_4x_1 := KB6_4x.out.cell (i := 1) rfl
    have yB6_4x_2 := KB6_4x.out.cell (i := 2) rfl
    have KB9_4x := Ho.mk (KB9.out)
    have yB9_4x_0 := KB9_4x.out.cell (i := 0) rfl
    have yB9_4x_1 := KB9_4x.out.cell (i := 1) rfl
    have yB9_4x_2 := KB9_4x.out.cell (i := 2) rfl
    go_wp2_with fail
    (with_reducible refine (F1.rAdd (n2.bel (((((Bel.refl _).alloc (.cells #[.bool (dneg u1), .slice A2 (digs (dm u1)).length c2, .int .i64 (de u1)] 24)).trans b3).trans b4).alloc (.cells #[.bool (dneg u2), .slice A4 (digs (dm u2)).length c4, .int .i64 (de u2)] 24))) (n4.bel ((Bel.refl _).alloc (.cells #[.bool (dneg u2), .slice A4 (digs (dm u2)).length c4, .int .i64 (de u2)] 24))) (by omega) (by omega)).mono ?_); rintro e w5 ⟨A5, c5, rfl, n5, b5⟩
    clear yB6_4x_0 yB6_4x_1 yB6_4x_2 yB9_4x_0 yB9_4x_1 yB9_4x_2
    go_wp2_with fail
    (with_reducible refine (H9.rShiftE n5 HHH.out (by omega) (by omega)).mono ?_); rintro e w6 ⟨A6, c6, rfl, n6, b6⟩
    have KB11 := Ho.mk (Blk.new w6 [.bool (dneg hh), .slice A6 (digs (dm hh)).length c6, .int .i64 (de hh)] 24)
    have KB11_6x := Ho.mk (KB11.out)
    have yB11_6x_0 := KB11_6x.out.cell (i := 0) rfl
    have yB11_6x_1 := KB11_6x.out.cell (i := 1) rfl
    have yB11_6x_2 := KB11_6x.out.cell (i := 2) rfl
    go_wp2_with fail
    (with_reducible refine (nearD (n6.bel ((Bel.refl _).alloc (.cells #[.bool (dneg hh), .slice A6 (digs (dm hh)).length c6, .int .i64 (de hh)] 24))) (by omega) (by omega) (r := nh) HNH.out).mono ?_); rintro e w7 ⟨rfl, b7⟩
    clear yB11_6x_0 yB11_6x_1 yB11_6x_2
    have KB3_7 := Ho.mk ((KB0.out.bel (((((((((((Bel.refl _).trans b1).trans b2).alloc (.cells #[.bool (dneg u1), .slice A2 (digs (dm u1)).length c2, .int .i64 (de u1)] 24)).trans b3).trans b4).alloc (.cells #[.bool (dneg u2), .slice A4 (digs (dm u2)).length c4, .int .i64 (de u2)] 24)).trans b5).trans b6).alloc (.cells #[.bool (dneg hh), .slice A6 (digs (dm hh)).length c6, .int .i64 (de hh)] 24)).trans b7)))
    have yB3_7_0 := KB3_7.out.cell (i := 0) rfl
    have yB3_7_1 := KB3_7.out.cell (i := 1) rfl
    have yB3_7_2 := KB3_7.out.cell (i := 2) rfl
    go_wp2_with fail
    (with_reducible refine ((HG.out _ (g0.trans (((((((((((Bel.refl _).trans b1).trans b2).alloc (.cells #[.bool (dneg u1), .slice A2 (digs (dm u1)).length c2, .int .i64 (de u1)] 24)).trans b3).trans b4).alloc (.cells #[.bool (dneg u2), .slice A4 (digs (dm u2)).length c4, .int .i64 (de u2)] 24)).trans b5).trans b6).alloc (.cells #[.bool (dneg hh), .slice A6 (digs (dm hh)).length c6, .int .i64 (de hh)] 24)).trans b7)))).mono ?_); rintro e w8 ⟨rfl, b8⟩
    clear yB3_7_0 yB3_7_1 yB3_7_2
    have KB3_8 := Ho.mk ((KB3_7.out.bel ((Bel.refl _).trans b8)))
    have yB3_8_0 := KB3_8.out.cell (i := 0) rfl
    have yB3_8_1 := KB3_8.out.cell (i := 1) rfl
    have yB3_8_2 := KB3_8.out.cell (i := 2) rfl
    go_wp2_with fail
    (with_reducible refine (nearD ((p0.bel g0).bel ((((((((((((Bel.refl _).trans b1).trans b2).alloc (.cells #[.bool (dneg u1), .slice A2 (digs (dm u1)).length c2, .int .i64 (de u1)] 24)).trans b3).trans b4).alloc (.cells #[.bool (dneg u2), .slice A4 (digs (dm u2)).length c4, .int .i64 (de u2)] 24)).trans b5).trans b6).alloc (.cells #[.bool (dneg hh), .slice A6 (digs (dm hh)).length c6, .int .i64 (de hh)] 24)).trans b7).trans b8)) (by omega) (by omega) (r := nd) HND.out).mono ?_); rintro e w9 ⟨rfl, b9⟩
    clear yB3_8_0 yB3_8_1 yB3_8_2
    have KB3_9 := Ho.mk ((KB3_8.out.bel ((Bel.refl _).trans b9)))
    have yB3_9_0 := KB3_9.out.cell (i := 0) rfl
    have yB3_9_1 := KB3_9.out.cell (i := 1) rfl
    have yB3_9_2 := KB3_9.out.cell (i := 2) rfl
    have KB6_9 := Ho.mk ((KB6_4x.out.bel (((((((Bel.refl _).trans b5).trans b6).alloc (.cells #[.bool (dneg hh), .slice A6 (digs (dm hh)).length c6, .int .i64 (de hh)] 24)).trans b7).trans b8).trans b9)))
    have yB6_9_0 := KB6_9.out.cell (i := 0) rfl
    have yB6_9_1 := KB6_9.out.cell (i := 1) rfl
    have yB6_9_2 := KB6_9.out.cell (i := 2) rfl
    go_wp2_with fail
    (with_reducible refine (F1.rCmp ((p0.bel g0).bel (((((((((((((Bel.refl _).trans b1).trans b2).alloc (.cells #[.bool (dneg u1), .slice A2 (digs (dm u1)).length c2, .int .i64 (de u1)] 24)).trans b3).trans b4).alloc (.cells #[.bool (dneg u2), .slice A4 (digs (dm u2)).length c4, .int .i64 (de u2)] 24)).trans b5).trans b6).alloc (.cells #[.bool (dneg hh), .slice A6 (digs (dm hh)).length c6, .int .i64 (de hh)] 24)).trans b7).trans b8).trans b9)) (n2.bel (((((((((((Bel.refl _).alloc (.cells #[.bool (dneg u1), .slice A2 (digs (dm u1)).length c2, .int .i64 (de u1)] 24)).trans b3).trans b4).alloc (.cells #[.bool (dneg u2), .slice A4 (digs (dm u2)).length c4, .int .i64 (de u2)] 24)).trans b5).trans b6).alloc (.cells #[.bool (dneg hh), .slice A6 (digs (dm hh)).length c6, .int .i64 (de hh)] 24)).trans b7).trans b8).trans b9)) (by omega) (by omega) (r := cu) HCU.out).mono ?_); rintro e w10 ⟨rfl, b10⟩
    clear yB3_9_0 yB3_9_1 yB3_9_2 yB6_9_0 yB6_9_1 yB6_9_2
    have KB3_10 := Ho.mk ((KB3_9.out.bel ((Bel.refl _).trans b10)))
    have yB3_10_0 := KB3_10.out.cell (i := 0) rfl
    have yB3_10_1 := KB3_10.out.cell (i := 1) rfl
    have yB3_10_2 := KB3_10.out.cell (i := 2) rfl
    have KB6_10 := Ho.mk ((KB6_9.out.bel ((Bel.refl _).trans b10)))
    have yB6_10_0 := KB6_10.out.cell (i := 0) rfl
    have yB6_10_1 := KB6_10.out.cell (i := 1) rfl
    have yB6_10_2 := KB6_10.out.cell (i := 2) rfl
    go_wp2_with fail
    (with_reducible refine (F1.rCmp ((p0.bel g0).bel ((((((((((((((Bel.refl _).trans b1).trans b2).alloc (.cells #[.bool (dneg u1), .slice A2 (digs (dm u1)).length c2, .int .i64 (de u1)] 24)).trans b3).trans b4).alloc (.cells #[.bool (dneg u2), .slice A4 (digs (dm u2)).length c4, .int .i64 (de u2)] 24)).trans b5).trans b6).alloc (.cells #[.bool (dneg hh), .slice A6 (digs (dm hh)).length c6, .int .i64 (de hh)] 24)).trans b7).trans b8).trans b9).trans b10)) (n2.bel ((((((((((((Bel.refl _).alloc (.cells #[.bool (dneg u1), .slice A2 (digs (dm u1)).length c2, .int .i64 (de u1)] 24)).trans b3).trans b4).alloc (.cells #[.bool (dneg u2), .slice A4 (digs (dm u2)).length c4, .int .i64 (de u2)] 24)).trans b5).trans b6).alloc (.cells #[.bool (dneg hh), .slice A6 (digs (dm hh)).length c6, .int .i64 (de hh)] 24)).trans b7).trans b8).trans b9).trans b10)) (by omega) (by omega) (r := cu) HCU.out).mono ?_); rintro e w11 ⟨rfl, b11⟩
    clear yB3_10_0 yB3_10_1 yB3_10_2 yB6_10_0 yB6_10_1 yB6_10_2
    have KB3_11 := Ho.mk ((KB3_10.out.bel ((Bel.refl _).trans b11)))
    have yB3_11_0 := KB3_11.out.cell (i := 0) rfl
    have yB3_11_1 := KB3_11.out.cell (i := 1) rfl
    have yB3_11_2 := KB3_11.out.cell (i := 2) rfl
    have KB11_11 := Ho.mk ((KB11_6x.out.bel ((((((Bel.refl _).trans b7).trans b8).trans b9).trans b10).trans b11)))
    have yB11_11_0 := KB11_11.out.cell (i := 0) rfl
    have yB11_11_1 := KB11_11.out.cell (i := 1) rfl
    have yB11_11_2 := KB11_11.out.cell (i := 2) rfl
    go_wp2_with fail
    (with_reducible refine (F1.rCmp ((p0.bel g0).bel (((((((((((((((Bel.refl _).trans b1).trans b2).alloc (.cells #[.bool (dneg u1), .slice A2 (digs (dm u1)).length c2, .int .i64 (de u1)] 24)).trans b3).trans b4).alloc (.cells #[.bool (dneg u2), .slice A4 (digs (dm u2)).length c4, .int .i64 (de u2)] 24)).trans b5).trans b6).alloc (.cells #[.bool (dneg hh), .slice A6 (digs (dm hh)).length c6, .int .i64 (de hh)] 24)).trans b7).trans b8).trans b9).trans b10).trans b11)) (n6.bel (((((((Bel.refl _).alloc (.cells #[.bool (dneg hh), .slice A6 (digs (dm hh)).length c6, .int .i64 (de hh)] 24)).trans b7).trans b8).trans b9).trans b10).trans b11)) (by omega) (by omega) (r := ch) HCH.out).mono ?_); rintro e w12 ⟨rfl, b12⟩
    clear yB3_11_0 yB3_11_1 yB3_11_2 yB11_11_0 yB11_11_1 yB11_11_2
    all_goals
      have HE := Ho.mk (g0.trans ((((((((((((((((Bel.refl _).trans b1).trans b2).alloc (.cells #[.bool (dneg u1), .slice A2 (digs (dm u1)).length c2, .int .i64 (de u1)] 24)).trans b3).trans b4).alloc (.cells #[.bool (dneg u2), .slice A4 (digs (dm u2)).length c4, .int .i64 (de u2)] 24)).trans b5).trans b6).alloc (.cells #[.bool (dneg hh), .slice A6 (digs (dm hh)).length c6, .int .i64 (de hh)] 24)).trans b7).trans b8).trans b9).trans b10).trans b11).trans b12))
      go_wp2
      go_ret
      exact ⟨rfl, HE.out⟩
set_option maxRecDepth 100000 in
set_option maxHeartbeats 8000000 in
theorem next_p2 {A0 : Option Addr} {c0 : Nat} {v0 : Int} {f g : Nat} {u1 u2 : Int} {k1 k2 : Bool} (w : World) (T : Tab w) (p0 : Dv w A0 c0 v0 3000 3480) (hf : f < 2 * sgnW) (hg : g < 2 * sgnW) (hx : nxw f = g)
    (hv1 : u1 = if frung f < infR then fv f else 0) (hk1 : k1 = decide (frung f < infR)) (hv2 : u2 = if frung g < infR then fv g else 0) (hk2 : k2 = decide (frung g < infR)) (hgd : H1.goodB (dneg v0) (digs (dm v0)) (de v0) = true) (e1 : k1 = true) (e2 : k2 = true) (q0 : (FloatKind.f64.format.order g f == some .gt) = true) (nh : Nat) (hnh : nw (shiftD (u1 + u2) (-1)) = nh)
    (hq : (FloatKind.f64.format.order nh f != some .eq) = false ∨ ((FloatKind.f64.format.order nh f != some .eq) = true ∧ (FloatKind.f64.format.order nh g != some .eq) = false))
    (nd : Nat) (cu ct ch : Int) (hcu : cmpI v0 u1 = cu) (hct : cmpI v0 u2 = ct) (hch : cmpI v0 (shiftD (u1 + u2) (-1)) = ch) (hnd : nw v0 = nd) (dcu0 : decide (cu < 0) = false) (dcu1 : decide (0 < cu) = false) (dcu2 : decide (cu ≤ 0) = true) (dcu3 : decide (0 ≤ cu) = true) (dct0 : decide (ct < 0) = true) (dct1 : decide (0 < ct) = false) (dct2 : decide (ct ≤ 0) = true) (dct3 : decide (0 ≤ ct) = false) (dch0 : decide (ch < 0) = true) (dch1 : decide (0 < ch) = false) (dch2 : decide (ch ≤ 0) = true) (dch3 : decide (0 ≤ ch) = false) (x1 : (FloatKind.f64.format.order nd f == some .eq) = true) :
    Calls Tryd.prog 13 #[.float .f64 f, .agg #[.bool (dneg v0), .slice A0 (digs (dm v0)).length c0, .int .i64 (de v0)]] w (Tells w (.bool true)) := by
  have TT := Ho.mk T
  have HF := Ho.mk hf
  have HX := Ho.mk hx
  have HO1 := Ho.mk (fun (W : World) (gw : Bel w W) => ofD (b := f) hf W (T.bel gw) (v := u1) (ok := k1) hv1 hk1)
  have HO2 := Ho.mk (fun (W : World) (gw : Bel w W) => ofD (b := g) hg W (T.bel gw) (v := u2) (ok := k2) hv2 hk2)
  have HG := Ho.mk (fun (W : World) (gw : Bel w W) => goodT (dneg v0) A0 c0 (digs (dm v0)) (de v0) W (p0.rd.bel gw) hgd)
  subst e1 e2
  obtain ⟨hh, hhh⟩ : ∃ h, shiftD (u1 + u2) (-1) = h := ⟨_, rfl⟩
  have HHH := Ho.mk hhh
  rw [hhh] at hnh
  have HNH := Ho.mk hnh
  rw [hhh] at hch
  have HCU := Ho.mk hcu
  have HCT := Ho.mk hct
  have HCH := Ho.mk hch
  have HND := Ho.mk hnd
  clear hcu hct hch hnd
  clear T hf hg hx hv1 hk1 hv2 hk2 hgd hhh hnh
  rcases hq with q1 | ⟨q1, q2⟩
  all_goals
    go_enter Tryd.func13, Tryd.ntmps13
    go_wp2_with fail
    have KB0 := Ho.mk (Blk.new w [.bool (dneg v0), .slice A0 (digs (dm v0)).length c0, .int .i64 (de v0)] 24)
    have g0 := (Bel.refl w).alloc (.cells #[.bool (dneg v0), .slice A0 (digs (dm v0)).length c0, .int .i64 (de v0)] 24)
    have hZ : (w.alloc (.cells #[.bool (dneg v0), .slice A0 (digs (dm v0)).length c0, .int .i64 (de v0)] 24)) = (w.alloc (.cells #[.bool (dneg v0), .slice A0 (digs (dm v0)).length c0, .int .i64 (de v0)] 24)) := rfl
    generalize (w.alloc (.cells #[.bool (dneg v0), .slice A0 (digs (dm v0)).length c0, .int .i64 (de v0)] 24)) = w0 at *
    clear hZ
    (with_reducible refine (headT _ (TT.out.bel (g0.trans (Bel.refl _)))).mono ?_); rintro e w1 ⟨rfl, b1⟩
    go_wp2_with fail
    (with_reducible refine (HO1.out _ (g0.trans ((Bel.refl _).trans b1))).mono ?_); rintro e w2 ⟨A2, c2, rfl, n2, b2⟩
    have KB6 := Ho.mk (Blk.new w2 [.bool (dneg u1), .slice A2 (digs (dm u1)).length c2, .int .i64 (de u1)] 24)
    go_wp2_with fail
    (with_reducible refine (nextT HF.out _ HX.out).mono ?_); rintro e w3 ⟨rfl, b3⟩
    go_wp2_with fail
    (with_reducible refine (HO2.out _ (g0.trans (((((Bel.refl _).trans b1).trans b2).alloc (.cells #[.bool (dneg u1), .slice A2 (digs (dm u1)).length c2, .int .i64 (de u1)] 24)).trans b3))).mono ?_); rintro e w4 ⟨A4, c4, rfl, n4, b4⟩
    have KB9 := Ho.mk (Blk.new w4 [.bool (dneg u2), .slice A4 (digs (dm u2)).length c4, .int .i64 (de u2)] 24)
    have KB6_4x := Ho.mk ((KB6.out.bel ((((Bel.refl _).trans b3).trans b4).alloc (.cells #[.bool (dneg u2), .slice A4 (digs (dm u2)).length c4, .int .i64 (de u2)] 24))))
    have yB6_4x_0 := KB6_4x.out.cell (i := 0) rfl
    have yB6_4x_1 := KB6_4x.out.cell (i := 1) rfl
    have yB6_4x_2 := KB6_4x.out.cell (i := 2) rfl
    have KB9_4x := Ho.mk (KB9.out)
    have yB9_4x_0 := KB9_4x.out.cell (i := 0) rfl
    have yB9_4x_1 := KB9_4x.out.cell (i := 1) rfl
    have yB9_4x_2 := KB9_4x.out.cell (i := 2) rfl
    go_wp2_with fail
    (with_reducible refine (F1.rAdd (n2.bel (((((Bel.refl _).alloc (.cells #[.bool (dneg u1), .slice A2 (digs (dm u1)).length c2, .int .i64 (de u1)] 24)).trans b3).trans b4).alloc (.cells #[.bool (dneg u2), .slice A4 (digs (dm u2)).length c4, .int .i64 (de u2)] 24))) (n4.bel ((Bel.refl _).alloc (.cells #[.bool (dneg u2), .slice A4 (digs (dm u2)).length c4, .int .i64 (de u2)] 24))) (by omega) (by omega)).mono ?_); rintro e w5 ⟨A5, c5, rfl, n5, b5⟩
    clear yB6_4x_0 yB6_4x_1 yB6_4x_2 yB9_4x_0 yB9_4x_1 yB9_4x_2
    go_wp2_with fail
    (with_reducible refine (H9.rShiftE n5 HHH.out (by omega) (by omega)).mono ?_); rintro e w6 ⟨A6, c6, rfl, n6, b6⟩
    have KB11 := Ho.mk (Blk.new w6 [.bool (dneg hh), .slice A6 (digs (dm hh)).length c6, .int .i64 (de hh)] 24)
    have KB11_6x := Ho.mk (KB11.out)
    have yB11_6x_0 := KB11_6x.out.cell (i := 0) rfl
    have yB11_6x_1 := KB11_6x.out.cell (i := 1) rfl
    have yB11_6x_2 := KB11_6x.out.cell (i := 2) rfl
    go_wp2_with fail
    (with_reducible refine (nearD (n6.bel ((Bel.refl _).alloc (.cells #[.bool (dneg hh), .slice A6 (digs (dm hh)).length c6, .int .i64 (de hh)] 24))) (by omega) (by omega) (r := nh) HNH.out).mono ?_); rintro e w7 ⟨rfl, b7⟩
    clear yB11_6x_0 yB11_6x_1 yB11_6x_2
    have KB3_7 := Ho.mk ((KB0.out.bel (((((((((((Bel.refl _).trans b1).trans b2).alloc (.cells #[.bool (dneg u1), .slice A2 (digs (dm u1)).length c2, .int .i64 (de u1)] 24)).trans b3).trans b4).alloc (.cells #[.bool (dneg u2), .slice A4 (digs (dm u2)).length c4, .int .i64 (de u2)] 24)).trans b5).trans b6).alloc (.cells #[.bool (dneg hh), .slice A6 (digs (dm hh)).length c6, .int .i64 (de hh)] 24)).trans b7)))
    have yB3_7_0 := KB3_7.out.cell (i := 0) rfl
    have yB3_7_1 := KB3_7.out.cell (i := 1) rfl
    have yB3_7_2 := KB3_7.out.cell (i := 2) rfl
    go_wp2_with fail
    (with_reducible refine ((HG.out _ (g0.trans (((((((((((Bel.refl _).trans b1).trans b2).alloc (.cells #[.bool (dneg u1), .slice A2 (digs (dm u1)).length c2, .int .i64 (de u1)] 24)).trans b3).trans b4).alloc (.cells #[.bool (dneg u2), .slice A4 (digs (dm u2)).length c4, .int .i64 (de u2)] 24)).trans b5).trans b6).alloc (.cells #[.bool (dneg hh), .slice A6 (digs (dm hh)).length c6, .int .i64 (de hh)] 24)).trans b7)))).mono ?_); rintro e w8 ⟨rfl, b8⟩
    clear yB3_7_0 yB3_7_1 yB3_7_2
    have KB3_8 := Ho.mk ((KB3_7.out.bel ((Bel.refl _).trans b8)))
    have yB3_8_0 := KB3_8.out.cell (i := 0) rfl
    have yB3_8_1 := KB3_8.out.cell (i := 1) rfl
    have yB3_8_2 := KB3_8.out.cell (i := 2) rfl
    go_wp2_with fail
    (with_reducible refine (nearD ((p0.bel g0).bel ((((((((((((Bel.refl _).trans b1).trans b2).alloc (.cells #[.bool (dneg u1), .slice A2 (digs (dm u1)).length c2, .int .i64 (de u1)] 24)).trans b3).trans b4).alloc (.cells #[.bool (dneg u2), .slice A4 (digs (dm u2)).length c4, .int .i64 (de u2)] 24)).trans b5).trans b6).alloc (.cells #[.bool (dneg hh), .slice A6 (digs (dm hh)).length c6, .int .i64 (de hh)] 24)).trans b7).trans b8)) (by omega) (by omega) (r := nd) HND.out).mono ?_); rintro e w9 ⟨rfl, b9⟩
    clear yB3_8_0 yB3_8_1 yB3_8_2
    have KB3_9 := Ho.mk ((KB3_8.out.bel ((Bel.refl _).trans b9)))
    have yB3_9_0 := KB3_9.out.cell (i := 0) rfl
    have yB3_9_1 := KB3_9.out.cell (i := 1) rfl
    have yB3_9_2 := KB3_9.out.cell (i := 2) rfl
    have KB6_9 := Ho.mk ((KB6_4x.out.bel (((((((Bel.refl _).trans b5).trans b6).alloc (.cells #[.bool (dneg hh), .slice A6 (digs (dm hh)).length c6, .int .i64 (de hh)] 24)).trans b7).trans b8).trans b9)))
    have yB6_9_0 := KB6_9.out.cell (i := 0) rfl
    have yB6_9_1 := KB6_9.out.cell (i := 1) rfl
    have yB6_9_2 := KB6_9.out.cell (i := 2) rfl
    go_wp2_with fail
    (with_reducible refine (F1.rCmp ((p0.bel g0).bel (((((((((((((Bel.refl _).trans b1).trans b2).alloc (.cells #[.bool (dneg u1), .slice A2 (digs (dm u1)).length c2, .int .i64 (de u1)] 24)).trans b3).trans b4).alloc (.cells #[.bool (dneg u2), .slice A4 (digs (dm u2)).length c4, .int .i64 (de u2)] 24)).trans b5).trans b6).alloc (.cells #[.bool (dneg hh), .slice A6 (digs (dm hh)).length c6, .int .i64 (de hh)] 24)).trans b7).trans b8).trans b9)) (n2.bel (((((((((((Bel.refl _).alloc (.cells #[.bool (dneg u1), .slice A2 (digs (dm u1)).length c2, .int .i64 (de u1)] 24)).trans b3).trans b4).alloc (.cells #[.bool (dneg u2), .slice A4 (digs (dm u2)).length c4, .int .i64 (de u2)] 24)).trans b5).trans b6).alloc (.cells #[.bool (dneg hh), .slice A6 (digs (dm hh)).length c6, .int .i64 (de hh)] 24)).trans b7).trans b8).trans b9)) (by omega) (by omega) (r := cu) HCU.out).mono ?_); rintro e w10 ⟨rfl, b10⟩
    clear yB3_9_0 yB3_9_1 yB3_9_2 yB6_9_0 yB6_9_1 yB6_9_2
    have KB3_10 := Ho.mk ((KB3_9.out.bel ((Bel.refl _).trans b10)))
    have yB3_10_0 := KB3_10.out.cell (i := 0) rfl
    have yB3_10_1 := KB3_10.out.cell (i := 1) rfl
    have yB3_10_2 := KB3_10.out.cell (i := 2) rfl
    have KB9_10 := Ho.mk ((KB9_4x.out.bel ((((((((Bel.refl _).trans b5).trans b6).alloc (.cells #[.bool (dneg hh), .slice A6 (digs (dm hh)).length c6, .int .i64 (de hh)] 24)).trans b7).trans b8).trans b9).trans b10)))
    have yB9_10_0 := KB9_10.out.cell (i := 0) rfl
    have yB9_10_1 := KB9_10.out.cell (i := 1) rfl
    have yB9_10_2 := KB9_10.out.cell (i := 2) rfl
    go_wp2_with fail
    (with_reducible refine (F1.rCmp ((p0.bel g0).bel ((((((((((((((Bel.refl _).trans b1).trans b2).alloc (.cells #[.bool (dneg u1), .slice A2 (digs (dm u1)).length c2, .int .i64 (de u1)] 24)).trans b3).trans b4).alloc (.cells #[.bool (dneg u2), .slice A4 (digs (dm u2)).length c4, .int .i64 (de u2)] 24)).trans b5).trans b6).alloc (.cells #[.bool (dneg hh), .slice A6 (digs (dm hh)).length c6, .int .i64 (de hh)] 24)).trans b7).trans b8).trans b9).trans b10)) (n4.bel (((((((((Bel.refl _).alloc (.cells #[.bool (dneg u2), .slice A4 (digs (dm u2)).length c4, .int .i64 (de u2)] 24)).trans b5).trans b6).alloc (.cells #[.bool (dneg hh), .slice A6 (digs (dm hh)).length c6, .int .i64 (de hh)] 24)).trans b7).trans b8).trans b9).trans b10)) (by omega) (by omega) (r := ct) HCT.out).mono ?_); rintro e w11 ⟨rfl, b11⟩
    clear yB3_10_0 yB3_10_1 yB3_10_2 yB9_10_0 yB9_10_1 yB9_10_2
    have KB3_11 := Ho.mk ((KB3_10.out.bel ((Bel.refl _).trans b11)))
    have yB3_11_0 := KB3_11.out.cell (i := 0) rfl
    have yB3_11_1 := KB3_11.out.cell (i := 1) rfl
    have yB3_11_2 := KB3_11.out.cell (i := 2) rfl
    have KB6_11 := Ho.mk ((KB6_9.out.bel (((Bel.refl _).trans b10).trans b11)))
    have yB6_11_0 := KB6_11.out.cell (i := 0) rfl
    have yB6_11_1 := KB6_11.out.cell (i := 1) rfl
    have yB6_11_2 := KB6_11.out.cell (i := 2) rfl
    go_wp2_with fail
    (with_reducible refine (F1.rCmp ((p0.bel g0).bel (((((((((((((((Bel.refl _).trans b1).trans b2).alloc (.cells #[.bool (dneg u1), .slice A2 (digs (dm u1)).length c2, .int .i64 (de u1)] 24)).trans b3).trans b4).alloc (.cells #[.bool (dneg u2), .slice A4 (digs (dm u2)).length c4, .int .i64 (de u2)] 24)).trans b5).trans b6).alloc (.cells #[.bool (dneg hh), .slice A6 (digs (dm hh)).length c6, .int .i64 (de hh)] 24)).trans b7).trans b8).trans b9).trans b10).trans b11)) (n2.bel (((((((((((((Bel.refl _).alloc (.cells #[.bool (dneg u1), .slice A2 (digs (dm u1)).length c2, .int .i64 (de u1)] 24)).trans b3).trans b4).alloc (.cells #[.bool (dneg u2), .slice A4 (digs (dm u2)).length c4, .int .i64 (de u2)] 24)).trans b5).trans b6).alloc (.cells #[.bool (dneg hh), .slice A6 (digs (dm hh)).length c6, .int .i64 (de hh)] 24)).trans b7).trans b8).trans b9).trans b10).trans b11)) (by omega) (by omega) (r := cu) HCU.out).mono ?_); rintro e w12 ⟨rfl, b12⟩
    clear yB3_11_0 yB3_11_1 yB3_11_2 yB6_11_0 yB6_11_1 yB6_11_2
    have KB3_12 := Ho.mk ((KB3_11.out.bel ((Bel.refl _).trans b12)))
    have yB3_12_0 := KB3_12.out.cell (i := 0) rfl
    have yB3_12_1 := KB3_12.out.cell (i := 1) rfl
    have yB3_12_2 := KB3_12.out.cell (i := 2) rfl
    have KB11_12 := Ho.mk ((KB11_6x.out.bel (((((((Bel.refl _).trans b7).trans b8).trans b9).trans b10).trans b11).trans b12)))
    have yB11_12_0 := KB11_12.out.cell (i := 0) rfl
    have yB11_12_1 := KB11_12.out.cell (i := 1) rfl
    have yB11_12_2 := KB11_12.out.cell (i := 2) rfl
    go_wp2_with fail
    (with_reducible refine (F1.rCmp ((p0.bel g0).bel ((((((((((((((((Bel.refl _).trans b1).trans b2).alloc (.cells #[.bool (dneg u1), .slice A2 (digs (dm u1)).length c2, .int .i64 (de u1)] 24)).trans b3).trans b4).alloc (.cells #[.bool (dneg u2), .slice A4 (digs (dm u2)).length c4, .int .i64 (de u2)] 24)).trans b5).trans b6).alloc (.cells #[.bool (dneg hh), .slice A6 (digs (dm hh)).length c6, .int .i64 (de hh)] 24)).trans b7).trans b8).trans b9).trans b10).trans b11).trans b12)) (n6.bel ((((((((Bel.refl _).alloc (.cells #[.bool (dneg hh), .slice A6 (digs (dm hh)).length c6, .int .i64 (de hh)] 24)).trans b7).trans b8).trans b9).trans b10).trans b11).trans b12)) (by omega) (by omega) (r := ch) HCH.out).mono ?_); rintro e w13 ⟨rfl, b13⟩
    clear yB3_12_0 yB3_12_1 yB3_12_2 yB11_12_0 yB11_12_1 yB11_12_2
    all_goals
      have HE := Ho.mk (g0.trans (((((((((((((((((Bel.refl _).trans b1).trans b2).alloc (.cells #[.bool (dneg u1), .slice A2 (digs (dm u1)).length c2, .int .i64 (de u1)] 24)).trans b3).trans b4).alloc (.cells #[.bool (dneg u2), .slice A4 (digs (dm u2)).length c4, .int .i64 (de u2)] 24)).trans b5).trans b6).alloc (.cells #[.bool (dneg hh), .slice A6 (digs (dm hh)).length c6, .int .i64 (de hh)] 24)).trans b7).trans b8).trans b9).trans b10).trans b11).trans b12).trans b13))
      go_wp2
      go_ret
      exact ⟨rfl, HE.out⟩
set_option maxRecDepth 100000 in
set_option maxHeartbeats 8000000 in
theorem next_p3 {A0 : Option Addr} {c0 : Nat} {v0 : Int} {f g : Nat} {u1 u2 : Int} {k1 k2 : Bool} (w : World) (T : Tab w) (p0 : Dv w A0 c0 v0 3000 3480) (hf : f < 2 * sgnW) (hg : g < 2 * sgnW) (hx : nxw f = g)
    (hv1 : u1 = if frung f < infR then fv f else 0) (hk1 : k1 = decide (frung f < infR)) (hv2 : u2 = if frung g < infR then fv g else 0) (hk2 : k2 = decide (frung g < infR)) (hgd : H1.goodB (dneg v0) (digs (dm v0)) (de v0) = true) (e1 : k1 = true) (e2 : k2 = true) (q0 : (FloatKind.f64.format.order g f == some .gt) = true) (nh : Nat) (hnh : nw (shiftD (u1 + u2) (-1)) = nh)
    (hq : (FloatKind.f64.format.order nh f != some .eq) = false ∨ ((FloatKind.f64.format.order nh f != some .eq) = true ∧ (FloatKind.f64.format.order nh g != some .eq) = false))
    (nd : Nat) (cu ct ch : Int) (hcu : cmpI v0 u1 = cu) (hct : cmpI v0 u2 = ct) (hch : cmpI v0 (shiftD (u1 + u2) (-1)) = ch) (hnd : nw v0 = nd) (dcu0 : decide (cu < 0) = false) (dcu1 : decide (0 < cu) = true) (dcu2 : decide (cu ≤ 0) = false) (dcu3 : decide (0 ≤ cu) = true) (dct0 : decide (ct < 0) = true) (dct1 : decide (0 < ct) = false) (dct2 : decide (ct ≤ 0) = true) (dct3 : decide (0 ≤ ct) = false) (dch0 : decide (ch < 0) = true) (dch1 : decide (0 < ch) = false) (dch2 : decide (ch ≤ 0) = true) (dch3 : decide (0 ≤ ch) = false) (x1 : (FloatKind.f64.format.order nd f == some .eq) = true) :
    Calls Tryd.prog 13 #[.float .f64 f, .agg #[.bool (dneg v0), .slice A0 (digs (dm v0)).length c0, .int .i64 (de v0)]] w (Tells w (.bool true)) := by
  have TT := Ho.mk T
  have HF := Ho.mk hf
  have HX := Ho.mk hx
  have HO1 := Ho.mk (fun (W : World) (gw : Bel w W) => ofD (b := f) hf W (T.bel gw) (v := u1) (ok := k1) hv1 hk1)
  have HO2 := Ho.mk (fun (W : World) (gw : Bel w W) => ofD (b := g) hg W (T.bel gw) (v := u2) (ok := k2) hv2 hk2)
  have HG := Ho.mk (fun (W : World) (gw : Bel w W) => goodT (dneg v0) A0 c0 (digs (dm v0)) (de v0) W (p0.rd.bel gw) hgd)
  subst e1 e2
  obtain ⟨hh, hhh⟩ : ∃ h, shiftD (u1 + u2) (-1) = h := ⟨_, rfl⟩
  have HHH := Ho.mk hhh
  rw [hhh] at hnh
  have HNH := Ho.mk hnh
  rw [hhh] at hch
  have HCU := Ho.mk hcu
  have HCT := Ho.mk hct
  have HCH := Ho.mk hch
  have HND := Ho.mk hnd
  clear hcu hct hch hnd
  clear T hf hg hx hv1 hk1 hv2 hk2 hgd hhh hnh
  rcases hq with q1 | ⟨q1, q2⟩
  all_goals
    go_enter Tryd.func13, Tryd.ntmps13
    go_wp2_with fail
    have KB0 := Ho.mk (Blk.new w [.bool (dneg v0), .slice A0 (digs (dm v0)).length c0, .int .i64 (de v0)] 24)
    have g0 := (Bel.refl w).alloc (.cells #[.bool (dneg v0), .slice A0 (digs (dm v0)).length c0, .int .i64 (de v0)] 24)
    have hZ : (w.alloc (.cells #[.bool (dneg v0), .slice A0 (digs (dm v0)).length c0, .int .i64 (de v0)] 24)) = (w.alloc (.cells #[.bool (dneg v0), .slice A0 (digs (dm v0)).length c0, .int .i64 (de v0)] 24)) := rfl
    generalize (w.alloc (.cells #[.bool (dneg v0), .slice A0 (digs (dm v0)).length c0, .int .i64 (de v0)] 24)) = w0 at *
    clear hZ
    (with_reducible refine (headT _ (TT.out.bel (g0.trans (Bel.refl _)))).mono ?_); rintro e w1 ⟨rfl, b1⟩
    go_wp2_with fail
    (with_reducible refine (HO1.out _ (g0.trans ((Bel.refl _).trans b1))).mono ?_); rintro e w2 ⟨A2, c2, rfl, n2, b2⟩
    have KB6 := Ho.mk (Blk.new w2 [.bool (dneg u1), .slice A2 (digs (dm u1)).length c2, .int .i64 (de u1)] 24)
    go_wp2_with fail
    (with_reducible refine (nextT HF.out _ HX.out).mono ?_); rintro e w3 ⟨rfl, b3⟩
    go_wp2_with fail
    (with_reducible refine (HO2.out _ (g0.trans (((((Bel.refl _).trans b1).trans b2).alloc (.cells #[.bool (dneg u1), .slice A2 (digs (dm u1)).length c2, .int .i64 (de u1)] 24)).trans b3))).mono ?_); rintro e w4 ⟨A4, c4, rfl, n4, b4⟩
    have KB9 := Ho.mk (Blk.new w4 [.bool (dneg u2), .slice A4 (digs (dm u2)).length c4, .int .i64 (de u2)] 24)
    have KB6_4x := Ho.mk ((KB6.out.bel ((((Bel.refl _).trans b3).trans b4).alloc (.cells #[.bool (dneg u2), .slice A4 (digs (dm u2)).length c4, .int .i64 (de u2)] 24))))
    have yB6_4x_0 := KB6_4x.out.cell (i := 0) rfl
    have yB6_4x_1 := KB6_4x.out.cell (i := 1) rfl
    have yB6_4x_2 := KB6_4x.out.cell (i := 2) rfl
    have KB9_4x := Ho.mk (KB9.out)
    have yB9_4x_0 := KB9_4x.out.cell (i := 0) rfl
    have yB9_4x_1 := KB9_4x.out.cell (i := 1) rfl
    have yB9_4x_2 := KB9_4x.out.cell (i := 2) rfl
    go_wp2_with fail
    (with_reducible refine (F1.rAdd (n2.bel (((((Bel.refl _).alloc (.cells #[.bool (dneg u1), .slice A2 (digs (dm u1)).length c2, .int .i64 (de u1)] 24)).trans b3).trans b4).alloc (.cells #[.bool (dneg u2), .slice A4 (digs (dm u2)).length c4, .int .i64 (de u2)] 24))) (n4.bel ((Bel.refl _).alloc (.cells #[.bool (dneg u2), .slice A4 (digs (dm u2)).length c4, .int .i64 (de u2)] 24))) (by omega) (by omega)).mono ?_); rintro e w5 ⟨A5, c5, rfl, n5, b5⟩
    clear yB6_4x_0 yB6_4x_1 yB6_4x_2 yB9_4x_0 yB9_4x_1 yB9_4x_2
    go_wp2_with fail
    (with_reducible refine (H9.rShiftE n5 HHH.out (by omega) (by omega)).mono ?_); rintro e w6 ⟨A6, c6, rfl, n6, b6⟩
    have KB11 := Ho.mk (Blk.new w6 [.bool (dneg hh), .slice A6 (digs (dm hh)).length c6, .int .i64 (de hh)] 24)
    have KB11_6x := Ho.mk (KB11.out)
    have yB11_6x_0 := KB11_6x.out.cell (i := 0) rfl
    have yB11_6x_1 := KB11_6x.out.cell (i := 1) rfl
    have yB11_6x_2 := KB11_6x.out.cell (i := 2) rfl
    go_wp2_with fail
    (with_reducible refine (nearD (n6.bel ((Bel.refl _).alloc (.cells #[.bool (dneg hh), .slice A6 (digs (dm hh)).length c6, .int .i64 (de hh)] 24))) (by omega) (by omega) (r := nh) HNH.out).mono ?_); rintro e w7 ⟨rfl, b7⟩
    clear yB11_6x_0 yB11_6x_1 yB11_6x_2
    have KB3_7 := Ho.mk ((KB0.out.bel (((((((((((Bel.refl _).trans b1).trans b2).alloc (.cells #[.bool (dneg u1), .slice A2 (digs (dm u1)).length c2, .int .i64 (de u1)] 24)).trans b3).trans b4).alloc (.cells #[.bool (dneg u2), .slice A4 (digs (dm u2)).length c4, .int .i64 (de u2)] 24)).trans b5).trans b6).alloc (.cells #[.bool (dneg hh), .slice A6 (digs (dm hh)).length c6, .int .i64 (de hh)] 24)).trans b7)))
    have yB3_7_0 := KB3_7.out.cell (i := 0) rfl
    have yB3_7_1 := KB3_7.out.cell (i := 1) rfl
    have yB3_7_2 := KB3_7.out.cell (i := 2) rfl
    go_wp2_with fail
    (with_reducible refine ((HG.out _ (g0.trans (((((((((((Bel.refl _).trans b1).trans b2).alloc (.cells #[.bool (dneg u1), .slice A2 (digs (dm u1)).length c2, .int .i64 (de u1)] 24)).trans b3).trans b4).alloc (.cells #[.bool (dneg u2), .slice A4 (digs (dm u2)).length c4, .int .i64 (de u2)] 24)).trans b5).trans b6).alloc (.cells #[.bool (dneg hh), .slice A6 (digs (dm hh)).length c6, .int .i64 (de hh)] 24)).trans b7)))).mono ?_); rintro e w8 ⟨rfl, b8⟩
    clear yB3_7_0 yB3_7_1 yB3_7_2
    have KB3_8 := Ho.mk ((KB3_7.out.bel ((Bel.refl _).trans b8)))
    have yB3_8_0 := KB3_8.out.cell (i := 0) rfl
    have yB3_8_1 := KB3_8.out.cell (i := 1) rfl
    have yB3_8_2 := KB3_8.out.cell (i := 2) rfl
    go_wp2_with fail
    (with_reducible refine (nearD ((p0.bel g0).bel ((((((((((((Bel.refl _).trans b1).trans b2).alloc (.cells #[.bool (dneg u1), .slice A2 (digs (dm u1)).length c2, .int .i64 (de u1)] 24)).trans b3).trans b4).alloc (.cells #[.bool (dneg u2), .slice A4 (digs (dm u2)).length c4, .int .i64 (de u2)] 24)).trans b5).trans b6).alloc (.cells #[.bool (dneg hh), .slice A6 (digs (dm hh)).length c6, .int .i64 (de hh)] 24)).trans b7).trans b8)) (by omega) (by omega) (r := nd) HND.out).mono ?_); rintro e w9 ⟨rfl, b9⟩
    clear yB3_8_0 yB3_8_1 yB3_8_2
    have KB3_9 := Ho.mk ((KB3_8.out.bel ((Bel.refl _).trans b9)))
    have yB3_9_0 := KB3_9.out.cell (i := 0) rfl
    have yB3_9_1 := KB3_9.out.cell (i := 1) rfl
    have yB3_9_2 := KB3_9.out.cell (i := 2) rfl
    have KB6_9 := Ho.mk ((KB6_4x.out.bel (((((((Bel.refl _).trans b5).trans b6).alloc (.cells #[.bool (dneg hh), .slice A6 (digs (dm hh)).length c6, .int .i64 (de hh)] 24)).trans b7).trans b8).trans b9)))
    have yB6_9_0 := KB6_9.out.cell (i := 0) rfl
    have yB6_9_1 := KB6_9.out.cell (i := 1) rfl
    have yB6_9_2 := KB6_9.out.cell (i := 2) rfl
    go_wp2_with fail
    (with_reducible refine (F1.rCmp ((p0.bel g0).bel (((((((((((((Bel.refl _).trans b1).trans b2).alloc (.cells #[.bool (dneg u1), .slice A2 (digs (dm u1)).length c2, .int .i64 (de u1)] 24)).trans b3).trans b4).alloc (.cells #[.bool (dneg u2), .slice A4 (digs (dm u2)).length c4, .int .i64 (de u2)] 24)).trans b5).trans b6).alloc (.cells #[.bool (dneg hh), .slice A6 (digs (dm hh)).length c6, .int .i64 (de hh)] 24)).trans b7).trans b8).trans b9)) (n2.bel (((((((((((Bel.refl _).alloc (.cells #[.bool (dneg u1), .slice A2 (digs (dm u1)).length c2, .int .i64 (de u1)] 24)).trans b3).trans b4).alloc (.cells #[.bool (dneg u2), .slice A4 (digs (dm u2)).length c4, .int .i64 (de u2)] 24)).trans b5).trans b6).alloc (.cells #[.bool (dneg hh), .slice A6 (digs (dm hh)).length c6, .int .i64 (de hh)] 24)).trans b7).trans b8).trans b9)) (by omega) (by omega) (r := cu) HCU.out).mono ?_); rintro e w10 ⟨rfl, b10⟩
    clear yB3_9_0 yB3_9_1 yB3_9_2 yB6_9_0 yB6_9_1 yB6_9_2
    have KB3_10 := Ho.mk ((KB3_9.out.bel ((Bel.refl _).trans b10)))
    have yB3_10_0 := KB3_10.out.cell (i := 0) rfl
    have yB3_10_1 := KB3_10.out.cell (i := 1) rfl
    have yB3_10_2 := KB3_10.out.cell (i := 2) rfl
    have KB9_10 := Ho.mk ((KB9_4x.out.bel ((((((((Bel.refl _).trans b5).trans b6).alloc (.cells #[.bool (dneg hh), .slice A6 (digs (dm hh)).length c6, .int .i64 (de hh)] 24)).trans b7).trans b8).trans b9).trans b10)))
    have yB9_10_0 := KB9_10.out.cell (i := 0) rfl
    have yB9_10_1 := KB9_10.out.cell (i := 1) rfl
    have yB9_10_2 := KB9_10.out.cell (i := 2) rfl
    go_wp2_with fail
    (with_reducible refine (F1.rCmp ((p0.bel g0).bel ((((((((((((((Bel.refl _).trans b1).trans b2).alloc (.cells #[.bool (dneg u1), .slice A2 (digs (dm u1)).length c2, .int .i64 (de u1)] 24)).trans b3).trans b4).alloc (.cells #[.bool (dneg u2), .slice A4 (digs (dm u2)).length c4, .int .i64 (de u2)] 24)).trans b5).trans b6).alloc (.cells #[.bool (dneg hh), .slice A6 (digs (dm hh)).length c6, .int .i64 (de hh)] 24)).trans b7).trans b8).trans b9).trans b10)) (n4.bel (((((((((Bel.refl _).alloc (.cells #[.bool (dneg u2), .slice A4 (digs (dm u2)).length c4, .int .i64 (de u2)] 24)).trans b5).trans b6).alloc (.cells #[.bool (dneg hh), .slice A6 (digs (dm hh)).length c6, .int .i64 (de hh)] 24)).trans b7).trans b8).trans b9).trans b10)) (by omega) (by omega) (r := ct) HCT.out).mono ?_); rintro e w11 ⟨rfl, b11⟩
    clear yB3_10_0 yB3_10_1 yB3_10_2 yB9_10_0 yB9_10_1 yB9_10_2
    have KB3_11 := Ho.mk ((KB3_10.out.bel ((Bel.refl _).trans b11)))
    have yB3_11_0 := KB3_11.out.cell (i := 0) rfl
    have yB3_11_1 := KB3_11.out.cell (i := 1) rfl
    have yB3_11_2 := KB3_11.out.cell (i := 2) rfl
    have KB6_11 := Ho.mk ((KB6_9.out.bel (((Bel.refl _).trans b10).trans b11)))
    have yB6_11_0 := KB6_11.out.cell (i := 0) rfl
    have yB6_11_1 := KB6_11.out.cell (i := 1) rfl
    have yB6_11_2 := KB6_11.out.cell (i := 2) rfl
    go_wp2_with fail
    (with_reducible refine (F1.rCmp ((p0.bel g0).bel (((((((((((((((Bel.refl _).trans b1).trans b2).alloc (.cells #[.bool (dneg u1), .slice A2 (digs (dm u1)).length c2, .int .i64 (de u1)] 24)).trans b3).trans b4).alloc (.cells #[.bool (dneg u2), .slice A4 (digs (dm u2)).length c4, .int .i64 (de u2)] 24)).trans b5).trans b6).alloc (.cells #[.bool (dneg hh), .slice A6 (digs (dm hh)).length c6, .int .i64 (de hh)] 24)).trans b7).trans b8).trans b9).trans b10).trans b11)) (n2.bel (((((((((((((Bel.refl _).alloc (.cells #[.bool (dneg u1), .slice A2 (digs (dm u1)).length c2, .int .i64 (de u1)] 24)).trans b3).trans b4).alloc (.cells #[.bool (dneg u2), .slice A4 (digs (dm u2)).length c4, .int .i64 (de u2)] 24)).trans b5).trans b6).alloc (.cells #[.bool (dneg hh), .slice A6 (digs (dm hh)).length c6, .int .i64 (de hh)] 24)).trans b7).trans b8).trans b9).trans b10).trans b11)) (by omega) (by omega) (r := cu) HCU.out).mono ?_); rintro e w12 ⟨rfl, b12⟩
    clear yB3_11_0 yB3_11_1 yB3_11_2 yB6_11_0 yB6_11_1 yB6_11_2
    have KB3_12 := Ho.mk ((KB3_11.out.bel ((Bel.refl _).trans b12)))
    have yB3_12_0 := KB3_12.out.cell (i := 0) rfl
    have yB3_12_1 := KB3_12.out.cell (i := 1) rfl
    have yB3_12_2 := KB3_12.out.cell (i := 2) rfl
    have KB11_12 := Ho.mk ((KB11_6x.out.bel (((((((Bel.refl _).trans b7).trans b8).trans b9).trans b10).trans b11).trans b12)))
    have yB11_12_0 := KB11_12.out.cell (i := 0) rfl
    have yB11_12_1 := KB11_12.out.cell (i := 1) rfl
    have yB11_12_2 := KB11_12.out.cell (i := 2) rfl
    go_wp2_with fail
    (with_reducible refine (F1.rCmp ((p0.bel g0).bel ((((((((((((((((Bel.refl _).trans b1).trans b2).alloc (.cells #[.bool (dneg u1), .slice A2 (digs (dm u1)).length c2, .int .i64 (de u1)] 24)).trans b3).trans b4).alloc (.cells #[.bool (dneg u2), .slice A4 (digs (dm u2)).length c4, .int .i64 (de u2)] 24)).trans b5).trans b6).alloc (.cells #[.bool (dneg hh), .slice A6 (digs (dm hh)).length c6, .int .i64 (de hh)] 24)).trans b7).trans b8).trans b9).trans b10).trans b11).trans b12)) (n6.bel ((((((((Bel.refl _).alloc (.cells #[.bool (dneg hh), .slice A6 (digs (dm hh)).length c6, .int .i64 (de hh)] 24)).trans b7).trans b8).trans b9).trans b10).trans b11).trans b12)) (by omega) (by omega) (r := ch) HCH.out).mono ?_); rintro e w13 ⟨rfl, b13⟩
    clear yB3_12_0 yB3_12_1 yB3_12_2 yB11_12_0 yB11_12_1 yB11_12_2
    have KB3_13 := Ho.mk ((KB3_12.out.bel ((Bel.refl _).trans b13)))
    have yB3_13_0 := KB3_13.out.cell (i := 0) rfl
    have yB3_13_1 := KB3_13.out.cell (i := 1) rfl
    have yB3_13_2 := KB3_13.out.cell (i := 2) rfl
    have KB11_13 := Ho.mk ((KB11_12.out.bel ((Bel.refl _).trans b13)))
    have yB11_13_0 := KB11_13.out.cell (i := 0) rfl
    have yB11_13_1 := KB11_13.out.cell (i := 1) rfl
    have yB11_13_2 := KB11_13.out.cell (i := 2) rfl
    go_wp2_with fail
    (with_reducible refine (F1.rCmp ((p0.bel g0).bel (((((((((((((((((Bel.refl _).trans b1).trans b2).alloc (.cells #[.bool (dneg u1), .slice A2 (digs (dm u1)).length c2, .int .i64 (de u1)] 24)).trans b3).trans b4).alloc (.cells #[.bool (dneg u2), .slice A4 (digs (dm u2)).length c4, .int .i64 (de u2)] 24)).trans b5).trans b6).alloc (.cells #[.bool (dneg hh), .slice A6 (digs (dm hh)).length c6, .int .i64 (de hh)] 24)).trans b7).trans b8).trans b9).trans b10).trans b11).trans b12).trans b13)) (n6.bel (((((((((Bel.refl _).alloc (.cells #[.bool (dneg hh), .slice A6 (digs (dm hh)).length c6, .int .i64 (de hh)] 24)).trans b7).trans b8).trans b9).trans b10).trans b11).trans b12).trans b13)) (by omega) (by omega) (r := ch) HCH.out).mono ?_); rintro e w14 ⟨rfl, b14⟩
    clear yB3_13_0 yB3_13_1 yB3_13_2 yB11_13_0 yB11_13_1 yB11_13_2
    all_goals
      have HE := Ho.mk (g0.trans ((((((((((((((((((Bel.refl _).trans b1).trans b2).alloc (.cells #[.bool (dneg u1), .slice A2 (digs (dm u1)).length c2, .int .i64 (de u1)] 24)).trans b3).trans b4).alloc (.cells #[.bool (dneg u2), .slice A4 (digs (dm u2)).length c4, .int .i64 (de u2)] 24)).trans b5).trans b6).alloc (.cells #[.bool (dneg hh), .slice A6 (digs (dm hh)).length c6, .int .i64 (de hh)] 24)).trans b7).trans b8).trans b9).trans b10).trans b11).trans b12).trans b13).trans b14))
      go_wp2
      go_ret
      exact ⟨rfl, HE.out⟩
set_option maxRecDepth 100000 in
set_option maxHeartbeats 8000000 in
theorem next_p4a {A0 : Option Addr} {c0 : Nat} {v0 : Int} {f g : Nat} {u1 u2 : Int} {k1 k2 : Bool} (w : World) (T : Tab w) (p0 : Dv w A0 c0 v0 3000 3480) (hf : f < 2 * sgnW) (hg : g < 2 * sgnW) (hx : nxw f = g)
    (hv1 : u1 = if frung f < infR then fv f else 0) (hk1 : k1 = decide (frung f < infR)) (hv2 : u2 = if frung g < infR then fv g else 0) (hk2 : k2 = decide (frung g < infR)) (hgd : H1.goodB (dneg v0) (digs (dm v0)) (de v0) = true) (e1 : k1 = true) (e2 : k2 = true) (q0 : (FloatKind.f64.format.order g f == some .gt) = true) (nh : Nat) (hnh : nw (shiftD (u1 + u2) (-1)) = nh)
    (hq : (FloatKind.f64.format.order nh f != some .eq) = false ∨ ((FloatKind.f64.format.order nh f != some .eq) = true ∧ (FloatKind.f64.format.order nh g != some .eq) = false))
    (nd : Nat) (cu ct ch : Int) (hcu : cmpI v0 u1 = cu) (hct : cmpI v0 u2 = ct) (hch : cmpI v0 (shiftD (u1 + u2) (-1)) = ch) (hnd : nw v0 = nd) (dcu0 : decide (cu < 0) = false) (dcu1 : decide (0 < cu) = true) (dcu2 : decide (cu ≤ 0) = false) (dcu3 : decide (0 ≤ cu) = true) (dct0 : decide (ct < 0) = true) (dct1 : decide (0 < ct) = false) (dct2 : decide (ct ≤ 0) = true) (dct3 : decide (0 ≤ ct) = false) (dch0 : decide (ch < 0) = false) (dch1 : decide (0 < ch) = false) (dch2 : decide (ch ≤ 0) = true) (dch3 : decide (0 ≤ ch) = true) (x1 : (FloatKind.f64.format.order nd f == some .eq) = true) :
    Calls Tryd.prog 13 #[.float .f64 f, .agg #[.bool (dneg v0), .slice A0 (digs (dm v0)).length c0, .int .i64 (de v0)]] w (Tells w (.bool true)) := by
  have TT := Ho.mk T
  have HF := Ho.mk hf
  have HX := Ho.mk hx
  have HO1 := Ho.mk (fun (W : World) (gw : Bel w W) => ofD (b := f) hf W (T.bel gw) (v := u1) (ok := k1) hv1 hk1)
  have HO2 := Ho.mk (fun (W : World) (gw : Bel w W) => ofD (b := g) hg W (T.bel gw) (v := u2) (ok := k2) hv2 hk2)
  have HG := Ho.mk (fun (W : World) (gw : Bel w W) => goodT (dneg v0) A0 c0 (digs (dm v0)) (de v0) W (p0.rd.bel gw) hgd)
  subst e1 e2
  obtain ⟨hh, hhh⟩ : ∃ h, shiftD (u1 + u2) (-1) = h := ⟨_, rfl⟩
  have HHH := Ho.mk hhh
  rw [hhh] at hnh
  have HNH := Ho.mk hnh
  rw [hhh] at hch
  have HCU := Ho.mk hcu
  have HCT := Ho.mk hct
  have HCH := Ho.mk hch
  have HND := Ho.mk hnd
  clear hcu hct hch hnd
  clear T hf hg hx hv1 hk1 hv2 hk2 hgd hhh hnh
  rcases hq with q1 | ⟨q1, q2⟩
  all_goals
    go_enter Tryd.func13, Tryd.ntmps13
    go_wp2_with fail
    have KB0 := Ho.mk (Blk.new w [.bool (dneg v0), .slice A0 (digs (dm v0)).length c0, .int .i64 (de v0)] 24)
    have g0 := (Bel.refl w).alloc (.cells #[.bool (dneg v0), .slice A0 (digs (dm v0)).length c0, .int .i64 (de v0)] 24)
    have hZ : (w.alloc (.cells #[.bool (dneg v0), .slice A0 (digs (dm v0)).length c0, .int .i64 (de v0)] 24)) = (w.alloc (.cells #[.bool (dneg v0), .slice A0 (digs (dm v0)).length c0, .int .i64 (de v0)] 24)) := rfl
    generalize (w.alloc (.cells #[.bool (dneg v0), .slice A0 (digs (dm v0)).length c0, .int .i64 (de v0)] 24)) = w0 at *
    clear hZ
    (with_reducible refine (headT _ (TT.out.bel (g0.trans (Bel.refl _)))).mono ?_); rintro e w1 ⟨rfl, b1⟩
    go_wp2_with fail
    (with_reducible refine (HO1.out _ (g0.trans ((Bel.refl _).trans b1))).mono ?_); rintro e w2 ⟨A2, c2, rfl, n2, b2⟩
    have KB6 := Ho.mk (Blk.new w2 [.bool (dneg u1), .slice A2 (digs (dm u1)).length c2, .int .i64 (de u1)] 24)
    go_wp2_with fail
    (with_reducible refine (nextT HF.out _ HX.out).mono ?_); rintro e w3 ⟨rfl, b3⟩
    go_wp2_with fail
    (with_reducible refine (HO2.out _ (g0.trans (((((Bel.refl _).trans b1).trans b2).alloc (.cells #[.bool (dneg u1), .slice A2 (digs (dm u1)).length c2, .int .i64 (de u1)] 24)).trans b3))).mono ?_); rintro e w4 ⟨A4, c4, rfl, n4, b4⟩
    have KB9 := Ho.mk (Blk.new w4 [.bool (dneg u2), .slice A4 (digs (dm u2)).length c4, .int .i64 (de u2)] 24)
    have KB6_4x := Ho.mk ((KB6.out.bel ((((Bel.refl _).trans b3).trans b4).alloc (.cells #[.bool (dneg u2), .slice A4 (digs (dm u2)).length c4, .int .i64 (de u2)] 24))))
    have yB6_4x_0 := KB6_4x.out.cell (i := 0) rfl
    have yB6_4x_1 := KB6_4x.out.cell (i := 1) rfl
    have yB6_4x_2 := KB6_4x.out.cell (i := 2) rfl
    have KB9_4x := Ho.mk (KB9.out)
    have yB9_4x_0 := KB9_4x.out.cell (i := 0) rfl
    have yB9_4x_1 := KB9_4x.out.cell (i := 1) rfl
    have yB9_4x_2 := KB9_4x.out.cell (i := 2) rfl
    go_wp2_with fail
    (with_reducible refine (F1.rAdd (n2.bel (((((Bel.refl _).alloc (.cells #[.bool (dneg u1), .slice A2 (digs (dm u1)).length c2, .int .i64 (de u1)] 24)).trans b3).trans b4).alloc (.cells #[.bool (dneg u2), .slice A4 (digs (dm u2)).length c4, .int .i64 (de u2)] 24))) (n4.bel ((Bel.refl _).alloc (.cells #[.bool (dneg u2), .slice A4 (digs (dm u2)).length c4, .int .i64 (de u2)] 24))) (by omega) (by omega)).mono ?_); rintro e w5 ⟨A5, c5, rfl, n5, b5⟩
    clear yB6_4x_0 yB6_4x_1 yB6_4x_2 yB9_4x_0 yB9_4x_1 yB9_4x_2
    go_wp2_with fail
    (with_reducible refine (H9.rShiftE n5 HHH.out (by omega) (by omega)).mono ?_); rintro e w6 ⟨A6, c6, rfl, n6, b6⟩
    have KB11 := Ho.mk (Blk.new w6 [.bool (dneg hh), .slice A6 (digs (dm hh)).length c6, .int .i64 (de hh)] 24)
    have KB11_6x := Ho.mk (KB11.out)
    have yB11_6x_0 := KB11_6x.out.cell (i := 0) rfl
    have yB11_6x_1 := KB11_6x.out.cell (i := 1) rfl
    have yB11_6x_2 := KB11_6x.out.cell (i := 2) rfl
    go_wp2_with fail
    (with_reducible refine (nearD (n6.bel ((Bel.refl _).alloc (.cells #[.bool (dneg hh), .slice A6 (digs (dm hh)).length c6, .int .i64 (de hh)] 24))) (by omega) (by omega) (r := nh) HNH.out).mono ?_); rintro e w7 ⟨rfl, b7⟩
    clear yB11_6x_0 yB11_6x_1 yB11_6x_2
    have KB3_7 := Ho.mk ((KB0.out.bel (((((((((((Bel.refl _).trans b1).trans b2).alloc (.cells #[.bool (dneg u1), .slice A2 (digs (dm u1)).length c2, .int .i64 (de u1)] 24)).trans b3).trans b4).alloc (.cells #[.bool (dneg u2), .slice A4 (digs (dm u2)).length c4, .int .i64 (de u2)] 24)).trans b5).trans b6).alloc (.cells #[.bool (dneg hh), .slice A6 (digs (dm hh)).length c6, .int .i64 (de hh)] 24)).trans b7)))
    have yB3_7_0 := KB3_7.out.cell (i := 0) rfl
    have yB3_7_1 := KB3_7.out.cell (i := 1) rfl
    have yB3_7_2 := KB3_7.out.cell (i := 2) rfl
    go_wp2_with fail
    (with_reducible refine ((HG.out _ (g0.trans (((((((((((Bel.refl _).trans b1).trans b2).alloc (.cells #[.bool (dneg u1), .slice A2 (digs (dm u1)).length c2, .int .i64 (de u1)] 24)).trans b3).trans b4).alloc (.cells #[.bool (dneg u2), .slice A4 (digs (dm u2)).length c4, .int .i64 (de u2)] 24)).trans b5).trans b6).alloc (.cells #[.bool (dneg hh), .slice A6 (digs (dm hh)).length c6, .int .i64 (de hh)] 24)).trans b7)))).mono ?_); rintro e w8 ⟨rfl, b8⟩
    clear yB3_7_0 yB3_7_1 yB3_7_2
    have KB3_8 := Ho.mk ((KB3_7.out.bel ((Bel.refl _).trans b8)))
    have yB3_8_0 := KB3_8.out.cell (i := 0) rfl
    have yB3_8_1 := KB3_8.out.cell (i := 1) rfl
    have yB3_8_2 := KB3_8.out.cell (i := 2) rfl
    go_wp2_with fail
    (with_reducible refine (nearD ((p0.bel g0).bel ((((((((((((Bel.refl _).trans b1).trans b2).alloc (.cells #[.bool (dneg u1), .slice A2 (digs (dm u1)).length c2, .int .i64 (de u1)] 24)).trans b3).trans b4).alloc (.cells #[.bool (dneg u2), .slice A4 (digs (dm u2)).length c4, .int .i64 (de u2)] 24)).trans b5).trans b6).alloc (.cells #[.bool (dneg hh), .slice A6 (digs (dm hh)).length c6, .int .i64 (de hh)] 24)).trans b7).trans b8)) (by omega) (by omega) (r := nd) HND.out).mono ?_); rintro e w9 ⟨rfl, b9⟩
    clear yB3_8_0 yB3_8_1 yB3_8_2
    have KB3_9 := Ho.mk ((KB3_8.out.bel ((Bel.refl _).trans b9)))
    have yB3_9_0 := KB3_9.out.cell (i := 0) rfl
    have yB3_9_1 := KB3_9.out.cell (i := 1) rfl
    have yB3_9_2 := KB3_9.out.cell (i := 2) rfl
    have KB6_9 := Ho.mk ((KB6_4x.out.bel (((((((Bel.refl _).trans b5).trans b6).alloc (.cells #[.bool (dneg hh), .slice A6 (digs (dm hh)).length c6, .int .i64 (de hh)] 24)).trans b7).trans b8).trans b9)))
    have yB6_9_0 := KB6_9.out.cell (i := 0) rfl
    have yB6_9_1 := KB6_9.out.cell (i := 1) rfl
    have yB6_9_2 := KB6_9.out.cell (i := 2) rfl
    go_wp2_with fail
    (with_reducible refine (F1.rCmp ((p0.bel g0).bel (((((((((((((Bel.refl _).trans b1).trans b2).alloc (.cells #[.bool (dneg u1), .slice A2 (digs (dm u1)).length c2, .int .i64 (de u1)] 24)).trans b3).trans b4).alloc (.cells #[.bool (dneg u2), .slice A4 (digs (dm u2)).length c4, .int .i64 (de u2)] 24)).trans b5).trans b6).alloc (.cells #[.bool (dneg hh), .slice A6 (digs (dm hh)).length c6, .int .i64 (de hh)] 24)).trans b7).trans b8).trans b9)) (n2.bel (((((((((((Bel.refl _).alloc (.cells #[.bool (dneg u1), .slice A2 (digs (dm u1)).length c2, .int .i64 (de u1)] 24)).trans b3).trans b4).alloc (.cells #[.bool (dneg u2), .slice A4 (digs (dm u2)).length c4, .int .i64 (de u2)] 24)).trans b5).trans b6).alloc (.cells #[.bool (dneg hh), .slice A6 (digs (dm hh)).length c6, .int .i64 (de hh)] 24)).trans b7).trans b8).trans b9)) (by omega) (by omega) (r := cu) HCU.out).mono ?_); rintro e w10 ⟨rfl, b10⟩
    clear yB3_9_0 yB3_9_1 yB3_9_2 yB6_9_0 yB6_9_1 yB6_9_2
    have KB3_10 := Ho.mk ((KB3_9.out.bel ((Bel.refl _).trans b10)))
    have yB3_10_0 := KB3_10.out.cell (i := 0) rfl
    have yB3_10_1 := KB3_10.out.cell (i := 1) rfl
    have yB3_10_2 := KB3_10.out.cell (i := 2) rfl
    have KB9_10 := Ho.mk ((KB9_4x.out.bel ((((((((Bel.refl _).trans b5).trans b6).alloc (.cells #[.bool (dneg hh), .slice A6 (digs (dm hh)).length c6, .int .i64 (de hh)] 24)).trans b7).trans b8).trans b9).trans b10)))
    have yB9_10_0 := KB9_10.out.cell (i := 0) rfl
    have yB9_10_1 := KB9_10.out.cell (i := 1) rfl
    have yB9_10_2 := KB9_10.out.cell (i := 2) rfl
    go_wp2_with fail
    (with_reducible refine (F1.rCmp ((p0.bel g0).bel ((((((((((((((Bel.refl _).trans b1).trans b2).alloc (.cells #[.bool (dneg u1), .slice A2 (digs (dm u1)).length c2, .int .i64 (de u1)] 24)).trans b3).trans b4).alloc (.cells #[.bool (dneg u2), .slice A4 (digs (dm u2)).length c4, .int .i64 (de u2)] 24)).trans b5).trans b6).alloc (.cells #[.bool (dneg hh), .slice A6 (digs (dm hh)).length c6, .int .i64 (de hh)] 24)).trans b7).trans b8).trans b9).trans b10)) (n4.bel (((((((((Bel.refl _).alloc (.cells #[.bool (dneg u2), .slice A4 (digs (dm u2)).length c4, .int .i64 (de u2)] 24)).trans b5).trans b6).alloc (.cells #[.bool (dneg hh), .slice A6 (digs (dm hh)).length c6, .int .i64 (de hh)] 24)).trans b7).trans b8).trans b9).trans b10)) (by omega) (by omega) (r := ct) HCT.out).mono ?_); rintro e w11 ⟨rfl, b11⟩
    clear yB3_10_0 yB3_10_1 yB3_10_2 yB9_10_0 yB9_10_1 yB9_10_2
    have KB3_11 := Ho.mk ((KB3_10.out.bel ((Bel.refl _).trans b11)))
    have yB3_11_0 := KB3_11.out.cell (i := 0) rfl
    have yB3_11_1 := KB3_11.out.cell (i := 1) rfl
    have yB3_11_2 := KB3_11.out.cell (i := 2) rfl
    have KB6_11 := Ho.mk ((KB6_9.out.bel (((Bel.refl _).trans b10).trans b11)))
    have yB6_11_0 := KB6_11.out.cell (i := 0) rfl
    have yB6_11_1 := KB6_11.out.cell (i := 1) rfl
    have yB6_11_2 := KB6_11.out.cell (i := 2) rfl
    go_wp2_with fail
    (with_reducible refine (F1.rCmp ((p0.bel g0).bel (((((((((((((((Bel.refl _).trans b1).trans b2).alloc (.cells #[.bool (dneg u1), .slice A2 (digs (dm u1)).length c2, .int .i64 (de u1)] 24)).trans b3).trans b4).alloc (.cells #[.bool (dneg u2), .slice A4 (digs (dm u2)).length c4, .int .i64 (de u2)] 24)).trans b5).trans b6).alloc (.cells #[.bool (dneg hh), .slice A6 (digs (dm hh)).length c6, .int .i64 (de hh)] 24)).trans b7).trans b8).trans b9).trans b10).trans b11)) (n2.bel (((((((((((((Bel.refl _).alloc (.cells #[.bool (dneg u1), .slice A2 (digs (dm u1)).length c2, .int .i64 (de u1)] 24)).trans b3).trans b4).alloc (.cells #[.bool (dneg u2), .slice A4 (digs (dm u2)).length c4, .int .i64 (de u2)] 24)).trans b5).trans b6).alloc (.cells #[.bool (dneg hh), .slice A6 (digs (dm hh)).length c6, .int .i64 (de hh)] 24)).trans b7).trans b8).trans b9).trans b10).trans b11)) (by omega) (by omega) (r := cu) HCU.out).mono ?_); rintro e w12 ⟨rfl, b12⟩
    clear yB3_11_0 yB3_11_1 yB3_11_2 yB6_11_0 yB6_11_1 yB6_11_2
    have KB3_12 := Ho.mk ((KB3_11.out.bel ((Bel.refl _).trans b12)))
    have yB3_12_0 := KB3_12.out.cell (i := 0) rfl
    have yB3_12_1 := KB3_12.out.cell (i := 1) rfl
    have yB3_12_2 := KB3_12.out.cell (i := 2) rfl
    have KB11_12 := Ho.mk ((KB11_6x.out.bel (((((((Bel.refl _).trans b7).trans b8).trans b9).trans b10).trans b11).trans b12)))
    have yB11_12_0 := KB11_12.out.cell (i := 0) rfl
    have yB11_12_1 := KB11_12.out.cell (i := 1) rfl
    have yB11_12_2 := KB11_12.out.cell (i := 2) rfl
    go_wp2_with fail
    (with_reducible refine (F1.rCmp ((p0.bel g0).bel ((((((((((((((((Bel.refl _).trans b1).trans b2).alloc (.cells #[.bool (dneg u1), .slice A2 (digs (dm u1)).length c2, .int .i64 (de u1)] 24)).trans b3).trans b4).alloc (.cells #[.bool (dneg u2), .slice A4 (digs (dm u2)).length c4, .int .i64 (de u2)] 24)).trans b5).trans b6).alloc (.cells #[.bool (dneg hh), .slice A6 (digs (dm hh)).length c6, .int .i64 (de hh)] 24)).trans b7).trans b8).trans b9).trans b10).trans b11).trans b12)) (n6.bel ((((((((Bel.refl _).alloc (.cells #[.bool (dneg hh), .slice A6 (digs (dm hh)).length c6, .int .i64 (de hh)] 24)).trans b7).trans b8).trans b9).trans b10).trans b11).trans b12)) (by omega) (by omega) (r := ch) HCH.out).mono ?_); rintro e w13 ⟨rfl, b13⟩
    clear yB3_12_0 yB3_12_1 yB3_12_2 yB11_12_0 yB11_12_1 yB11_12_2
    have KB3_13 := Ho.mk ((KB3_12.out.bel ((Bel.refl _).trans b13)))
    have yB3_13_0 := KB3_13.out.cell (i := 0) rfl
    have yB3_13_1 := KB3_13.out.cell (i := 1) rfl
    have yB3_13_2 := KB3_13.out.cell (i := 2) rfl
    have KB11_13 := Ho.mk ((KB11_12.out.bel ((Bel.refl _).trans b13)))
    have yB11_13_0 := KB11_13.out.cell (i := 0) rfl
    have yB11_13_1 := KB11_13.out.cell (i := 1) rfl
    have yB11_13_2 := KB11_13.out.cell (i := 2) rfl
    go_wp2_with fail
    (with_reducible refine (F1.rCmp ((p0.bel g0).bel (((((((((((((((((Bel.refl _).trans b1).trans b2).alloc (.cells #[.bool (dneg u1), .slice A2 (digs (dm u1)).length c2, .int .i64 (de u1)] 24)).trans b3).trans b4).alloc (.cells #[.bool (dneg u2), .slice A4 (digs (dm u2)).length c4, .int .i64 (de u2)] 24)).trans b5).trans b6).alloc (.cells #[.bool (dneg hh), .slice A6 (digs (dm hh)).length c6, .int .i64 (de hh)] 24)).trans b7).trans b8).trans b9).trans b10).trans b11).trans b12).trans b13)) (n6.bel (((((((((Bel.refl _).alloc (.cells #[.bool (dneg hh), .slice A6 (digs (dm hh)).length c6, .int .i64 (de hh)] 24)).trans b7).trans b8).trans b9).trans b10).trans b11).trans b12).trans b13)) (by omega) (by omega) (r := ch) HCH.out).mono ?_); rintro e w14 ⟨rfl, b14⟩
    clear yB3_13_0 yB3_13_1 yB3_13_2 yB11_13_0 yB11_13_1 yB11_13_2
    all_goals
      have HE := Ho.mk (g0.trans ((((((((((((((((((Bel.refl _).trans b1).trans b2).alloc (.cells #[.bool (dneg u1), .slice A2 (digs (dm u1)).length c2, .int .i64 (de u1)] 24)).trans b3).trans b4).alloc (.cells #[.bool (dneg u2), .slice A4 (digs (dm u2)).length c4, .int .i64 (de u2)] 24)).trans b5).trans b6).alloc (.cells #[.bool (dneg hh), .slice A6 (digs (dm hh)).length c6, .int .i64 (de hh)] 24)).trans b7).trans b8).trans b9).trans b10).trans b11).trans b12).trans b13).trans b14))
      go_wp2
      go_ret
      exact ⟨rfl, HE.out⟩
set_option maxRecDepth 100000 in
set_option maxHeartbeats 8000000 in
theorem next_p4b {A0 : Option Addr} {c0 : Nat} {v0 : Int} {f g : Nat} {u1 u2 : Int} {k1 k2 : Bool} (w : World) (T : Tab w) (p0 : Dv w A0 c0 v0 3000 3480) (hf : f < 2 * sgnW) (hg : g < 2 * sgnW) (hx : nxw f = g)
    (hv1 : u1 = if frung f < infR then fv f else 0) (hk1 : k1 = decide (frung f < infR)) (hv2 : u2 = if frung g < infR then fv g else 0) (hk2 : k2 = decide (frung g < infR)) (hgd : H1.goodB (dneg v0) (digs (dm v0)) (de v0) = true) (e1 : k1 = true) (e2 : k2 = true) (q0 : (FloatKind.f64.format.order g f == some .gt) = true) (nh : Nat) (hnh : nw (shiftD (u1 + u2) (-1)) = nh)
    (hq : (FloatKind.f64.format.order nh f != some .eq) = false ∨ ((FloatKind.f64.format.order nh f != some .eq) = true ∧ (FloatKind.f64.format.order nh g != some .eq) = false))
    (nd : Nat) (cu ct ch : Int) (hcu : cmpI v0 u1 = cu) (hct : cmpI v0 u2 = ct) (hch : cmpI v0 (shiftD (u1 + u2) (-1)) = ch) (hnd : nw v0 = nd) (dcu0 : decide (cu < 0) = false) (dcu1 : decide (0 < cu) = true) (dcu2 : decide (cu ≤ 0) = false) (dcu3 : decide (0 ≤ cu) = true) (dct0 : decide (ct < 0) = true) (dct1 : decide (0 < ct) = false) (dct2 : decide (ct ≤ 0) = true) (dct3 : decide (0 ≤ ct) = false) (dch0 : decide (ch < 0) = false) (dch1 : decide (0 < ch) = false) (dch2 : decide (ch ≤ 0) = true) (dch3 : decide (0 ≤ ch) = true) (x1 : (FloatKind.f64.format.order nd f == some .eq) = false) (x2 : (FloatKind.f64.format.order nd g == some .eq) = true) :
    Calls Tryd.prog 13 #[.float .f64 f, .agg #[.bool (dneg v0), .slice A0 (digs (dm v0)).length c0, .int .i64 (de v0)]] w (Tells w (.bool true)) := by
  have TT := Ho.mk T
  have HF := Ho.mk hf
  have HX := Ho.mk hx
  have HO1 := Ho.mk (fun (W : World) (gw : Bel w W) => ofD (b := f) hf W (T.bel gw) (v := u1) (ok := k1) hv1 hk1)
  have HO2 := Ho.mk (fun (W : World) (gw : Bel w W) => ofD (b := g) hg W (T.bel gw) (v := u2) (ok := k2) hv2 hk2)
  have HG := Ho.mk (fun (W : World) (gw : Bel w W) => goodT (dneg v0) A0 c0 (digs (dm v0)) (de v0) W (p0.rd.bel gw) hgd)
  subst e1 e2
  obtain ⟨hh, hhh⟩ : ∃ h, shiftD (u1 + u2) (-1) = h := ⟨_, rfl⟩
  have HHH := Ho.mk hhh
  rw [hhh] at hnh
  have HNH := Ho.mk hnh
  rw [hhh] at hch
  have HCU := Ho.mk hcu
  have HCT := Ho.mk hct
  have HCH := Ho.mk hch
  have HND := Ho.mk hnd
  clear hcu hct hch hnd
  clear T hf hg hx hv1 hk1 hv2 hk2 hgd hhh hnh
  rcases hq with q1 | ⟨q1, q2⟩
  all_goals
    go_enter Tryd.func13, Tryd.ntmps13
    go_wp2_with fail
    have KB0 := Ho.mk (Blk.new w [.bool (dneg v0), .slice A0 (digs (dm v0)).length c0, .int .i64 (de v0)] 24)
    have g0 := (Bel.refl w).alloc (.cells #[.bool (dneg v0), .slice A0 (digs (dm v0)).length c0, .int .i64 (de v0)] 24)
    have hZ : (w.alloc (.cells #[.bool (dneg v0), .slice A0 (digs (dm v0)).length c0, .int .i64 (de v0)] 24)) = (w.alloc (.cells #[.bool (dneg v0), .slice A0 (digs (dm v0)).length c0, .int .i64 (de v0)] 24)) := rfl
    generalize (w.alloc (.cells #[.bool (dneg v0), .slice A0 (digs (dm v0)).length c0, .int .i64 (de v0)] 24)) = w0 at *
    clear hZ
    (with_reducible refine (headT _ (TT.out.bel (g0.trans (Bel.refl _)))).mono ?_); rintro e w1 ⟨rfl, b1⟩
    go_wp2_with fail
    (with_reducible refine (HO1.out _ (g0.trans ((Bel.refl _).trans b1))).mono ?_); rintro e w2 ⟨A2, c2, rfl, n2, b2⟩
    have KB6 := Ho.mk (Blk.new w2 [.bool (dneg u1), .slice A2 (digs (dm u1)).length c2, .int .i64 (de u1)] 24)
    go_wp2_with fail
    (with_reducible refine (nextT HF.out _ HX.out).mono ?_); rintro e w3 ⟨rfl, b3⟩
    go_wp2_with fail
    (with_reducible refine (HO2.out _ (g0.trans (((((Bel.refl _).trans b1).trans b2).alloc (.cells #[.bool (dneg u1), .slice A2 (digs (dm u1)).length c2, .int .i64 (de u1)] 24)).trans b3))).mono ?_); rintro e w4 ⟨A4, c4, rfl, n4, b4⟩
    have KB9 := Ho.mk (Blk.new w4 [.bool (dneg u2), .slice A4 (digs (dm u2)).length c4, .int .i64 (de u2)] 24)
    have KB6_4x := Ho.mk ((KB6.out.bel ((((Bel.refl _).trans b3).trans b4).alloc (.cells #[.bool (dneg u2), .slice A4 (digs (dm u2)).length c4, .int .i64 (de u2)] 24))))
    have yB6_4x_0 := KB6_4x.out.cell (i := 0) rfl
    have yB6_4x_1 := KB6_4x.out.cell (i := 1) rfl
    have yB6_4x_2 := KB6_4x.out.cell (i := 2) rfl
    have KB9_4x := Ho.mk (KB9.out)
    have yB9_4x_0 := KB9_4x.out.cell (i := 0) rfl
    have yB9_4x_1 := KB9_4x.out.cell (i := 1) rfl
    have yB9_4x_2 := KB9_4x.out.cell (i := 2) rfl
    go_wp2_with fail
    (with_reducible refine (F1.rAdd (n2.bel (((((Bel.refl _).alloc (.cells #[.bool (dneg u1), .slice A2 (digs (dm u1)).length c2, .int .i64 (de u1)] 24)).trans b3).trans b4).alloc (.cells #[.bool (dneg u2), .slice A4 (digs (dm u2)).length c4, .int .i64 (de u2)] 24))) (n4.bel ((Bel.refl _).alloc (.cells #[.bool (dneg u2), .slice A4 (digs (dm u2)).length c4, .int .i64 (de u2)] 24))) (by omega) (by omega)).mono ?_); rintro e w5 ⟨A5, c5, rfl, n5, b5⟩
    clear yB6_4x_0 yB6_4x_1 yB6_4x_2 yB9_4x_0 yB9_4x_1 yB9_4x_2
    go_wp2_with fail
    (with_reducible refine (H9.rShiftE n5 HHH.out (by omega) (by omega)).mono ?_); rintro e w6 ⟨A6, c6, rfl, n6, b6⟩
    have KB11 := Ho.mk (Blk.new w6 [.bool (dneg hh), .slice A6 (digs (dm hh)).length c6, .int .i64 (de hh)] 24)
    have KB11_6x := Ho.mk (KB11.out)
    have yB11_6x_0 := KB11_6x.out.cell (i := 0) rfl
    have yB11_6x_1 := KB11_6x.out.cell (i := 1) rfl
    have yB11_6x_2 := KB11_6x.out.cell (i := 2) rfl
    go_wp2_with fail
    (with_reducible refine (nearD (n6.bel ((Bel.refl _).alloc (.cells #[.bool (dneg hh), .slice A6 (digs (dm hh)).length c6, .int .i64 (de hh)] 24))) (by omega) (by omega) (r := nh) HNH.out).mono ?_); rintro e w7 ⟨rfl, b7⟩
    clear yB11_6x_0 yB11_6x_1 yB11_6x_2
    have KB3_7 := Ho.mk ((KB0.out.bel (((((((((((Bel.refl _).trans b1).trans b2).alloc (.cells #[.bool (dneg u1), .slice A2 (digs (dm u1)).length c2, .int .i64 (de u1)] 24)).trans b3).trans b4).alloc (.cells #[.bool (dneg u2), .slice A4 (digs (dm u2)).length c4, .int .i64 (de u2)] 24)).trans b5).trans b6).alloc (.cells #[.bool (dneg hh), .slice A6 (digs (dm hh)).length c6, .int .i64 (de hh)] 24)).trans b7)))
    have yB3_7_0 := KB3_7.out.cell (i := 0) rfl
    have yB3_7_1 := KB3_7.out.cell (i := 1) rfl
    have yB3_7_2 := KB3_7.out.cell (i := 2) rfl
    go_wp2_with fail
    (with_reducible refine ((HG.out _ (g0.trans (((((((((((Bel.refl _).trans b1).trans b2).alloc (.cells #[.bool (dneg u1), .slice A2 (digs (dm u1)).length c2, .int .i64 (de u1)] 24)).trans b3).trans b4).alloc (.cells #[.bool (dneg u2), .slice A4 (digs (dm u2)).length c4, .int .i64 (de u2)] 24)).trans b5).trans b6).alloc (.cells #[.bool (dneg hh), .slice A6 (digs (dm hh)).length c6, .int .i64 (de hh)] 24)).trans b7)))).mono ?_); rintro e w8 ⟨rfl, b8⟩
    clear yB3_7_0 yB3_7_1 yB3_7_2
    have KB3_8 := Ho.mk ((KB3_7.out.bel ((Bel.refl _).trans b8)))
    have yB3_8_0 := KB3_8.out.cell (i := 0) rfl
    have yB3_8_1 := KB3_8.out.cell (i := 1) rfl
    have yB3_8_2 := KB3_8.out.cell (i := 2) rfl
    go_wp2_with fail
    (with_reducible refine (nearD ((p0.bel g0).bel ((((((((((((Bel.refl _).trans b1).trans b2).alloc (.cells #[.bool (dneg u1), .slice A2 (digs (dm u1)).length c2, .int .i64 (de u1)] 24)).trans b3).trans b4).alloc (.cells #[.bool (dneg u2), .slice A4 (digs (dm u2)).length c4, .int .i64 (de u2)] 24)).trans b5).trans b6).alloc (.cells #[.bool (dneg hh), .slice A6 (digs (dm hh)).length c6, .int .i64 (de hh)] 24)).trans b7).trans b8)) (by omega) (by omega) (r := nd) HND.out).mono ?_); rintro e w9 ⟨rfl, b9⟩
    clear yB3_8_0 yB3_8_1 yB3_8_2
    have KB3_9 := Ho.mk ((KB3_8.out.bel ((Bel.refl _).trans b9)))
    have yB3_9_0 := KB3_9.out.cell (i := 0) rfl
    have yB3_9_1 := KB3_9.out.cell (i := 1) rfl
    have yB3_9_2 := KB3_9.out.cell (i := 2) rfl
    have KB6_9 := Ho.mk ((KB6_4x.out.bel (((((((Bel.refl _).trans b5).trans b6).alloc (.cells #[.bool (dneg hh), .slice A6 (digs (dm hh)).length c6, .int .i64 (de hh)] 24)).trans b7).trans b8).trans b9)))
    have yB6_9_0 := KB6_9.out.cell (i := 0) rfl
    have yB6_9_1 := KB6_9.out.cell (i := 1) rfl
    have yB6_9_2 := KB6_9.out.cell (i := 2) rfl
    go_wp2_with fail
    (with_reducible refine (F1.rCmp ((p0.bel g0).bel (((((((((((((Bel.refl _).trans b1).trans b2).alloc (.cells #[.bool (dneg u1), .slice A2 (digs (dm u1)).length c2, .int .i64 (de u1)] 24)).trans b3).trans b4).alloc (.cells #[.bool (dneg u2), .slice A4 (digs (dm u2)).length c4, .int .i64 (de u2)] 24)).trans b5).trans b6).alloc (.cells #[.bool (dneg hh), .slice A6 (digs (dm hh)).length c6, .int .i64 (de hh)] 24)).trans b7).trans b8).trans b9)) (n2.bel (((((((((((Bel.refl _).alloc (.cells #[.bool (dneg u1), .slice A2 (digs (dm u1)).length c2, .int .i64 (de u1)] 24)).trans b3).trans b4).alloc (.cells #[.bool (dneg u2), .slice A4 (digs (dm u2)).length c4, .int .i64 (de u2)] 24)).trans b5).trans b6).alloc (.cells #[.bool (dneg hh), .slice A6 (digs (dm hh)).length c6, .int .i64 (de hh)] 24)).trans b7).trans b8).trans b9)) (by omega) (by omega) (r := cu) HCU.out).mono ?_); rintro e w10 ⟨rfl, b10⟩
    clear yB3_9_0 yB3_9_1 yB3_9_2 yB6_9_0 yB6_9_1 yB6_9_2
    have KB3_10 := Ho.mk ((KB3_9.out.bel ((Bel.refl _).trans b10)))
    have yB3_10_0 := KB3_10.out.cell (i := 0) rfl
    have yB3_10_1 := KB3_10.out.cell (i := 1) rfl
    have yB3_10_2 := KB3_10.out.cell (i := 2) rfl
    have KB9_10 := Ho.mk ((KB9_4x.out.bel ((((((((Bel.refl _).trans b5).trans b6).alloc (.cells #[.bool (dneg hh), .slice A6 (digs (dm hh)).length c6, .int .i64 (de hh)] 24)).trans b7).trans b8).trans b9).trans b10)))
    have yB9_10_0 := KB9_10.out.cell (i := 0) rfl
    have yB9_10_1 := KB9_10.out.cell (i := 1) rfl
    have yB9_10_2 := KB9_10.out.cell (i := 2) rfl
    go_wp2_with fail
    (with_reducible refine (F1.rCmp ((p0.bel g0).bel ((((((((((((((Bel.refl _).trans b1).trans b2).alloc (.cells #[.bool (dneg u1), .slice A2 (digs (dm u1)).length c2, .int .i64 (de u1)] 24)).trans b3).trans b4).alloc (.cells #[.bool (dneg u2), .slice A4 (digs (dm u2)).length c4, .int .i64 (de u2)] 24)).trans b5).trans b6).alloc (.cells #[.bool (dneg hh), .slice A6 (digs (dm hh)).length c6, .int .i64 (de hh)] 24)).trans b7).trans b8).trans b9).trans b10)) (n4.bel (((((((((Bel.refl _).alloc (.cells #[.bool (dneg u2), .slice A4 (digs (dm u2)).length c4, .int .i64 (de u2)] 24)).trans b5).trans b6).alloc (.cells #[.bool (dneg hh), .slice A6 (digs (dm hh)).length c6, .int .i64 (de hh)] 24)).trans b7).trans b8).trans b9).trans b10)) (by omega) (by omega) (r := ct) HCT.out).mono ?_); rintro e w11 ⟨rfl, b11⟩
    clear yB3_10_0 yB3_10_1 yB3_10_2 yB9_10_0 yB9_10_1 yB9_10_2
    have KB3_11 := Ho.mk ((KB3_10.out.bel ((Bel.refl _).trans b11)))
    have yB3_11_0 := KB3_11.out.cell (i := 0) rfl
    have yB3_11_1 := KB3_11.out.cell (i := 1) rfl
    have yB3_11_2 := KB3_11.out.cell (i := 2) rfl
    have KB6_11 := Ho.mk ((KB6_9.out.bel (((Bel.refl _).trans b10).trans b11)))
    have yB6_11_0 := KB6_11.out.cell (i := 0) rfl
    have yB6_11_1 := KB6_11.out.cell (i := 1) rfl
    have yB6_11_2 := KB6_11.out.cell (i := 2) rfl
    go_wp2_with fail
    (with_reducible refine (F1.rCmp ((p0.bel g0).bel (((((((((((((((Bel.refl _).trans b1).trans b2).alloc (.cells #[.bool (dneg u1), .slice A2 (digs (dm u1)).length c2, .int .i64 (de u1)] 24)).trans b3).trans b4).alloc (.cells #[.bool (dneg u2), .slice A4 (digs (dm u2)).length c4, .int .i64 (de u2)] 24)).trans b5).trans b6).alloc (.cells #[.bool (dneg hh), .slice A6 (digs (dm hh)).length c6, .int .i64 (de hh)] 24)).trans b7).trans b8).trans b9).trans b10).trans b11)) (n2.bel (((((((((((((Bel.refl _).alloc (.cells #[.bool (dneg u1), .slice A2 (digs (dm u1)).length c2, .int .i64 (de u1)] 24)).trans b3).trans b4).alloc (.cells #[.bool (dneg u2), .slice A4 (digs (dm u2)).length c4, .int .i64 (de u2)] 24)).trans b5).trans b6).alloc (.cells #[.bool (dneg hh), .slice A6 (digs (dm hh)).length c6, .int .i64 (de hh)] 24)).trans b7).trans b8).trans b9).trans b10).trans b11)) (by omega) (by omega) (r := cu) HCU.out).mono ?_); rintro e w12 ⟨rfl, b12⟩
    clear yB3_11_0 yB3_11_1 yB3_11_2 yB6_11_0 yB6_11_1 yB6_11_2
    have KB3_12 := Ho.mk ((KB3_11.out.bel ((Bel.refl _).trans b12)))
    have yB3_12_0 := KB3_12.out.cell (i := 0) rfl
    have yB3_12_1 := KB3_12.out.cell (i := 1) rfl
    have yB3_12_2 := KB3_12.out.cell (i := 2) rfl
    have KB11_12 := Ho.mk ((KB11_6x.out.bel (((((((Bel.refl _).trans b7).trans b8).trans b9).trans b10).trans b11).trans b12)))
    have yB11_12_0 := KB11_12.out.cell (i := 0) rfl
    have yB11_12_1 := KB11_12.out.cell (i := 1) rfl
    have yB11_12_2 := KB11_12.out.cell (i := 2) rfl
    go_wp2_with fail
    (with_reducible refine (F1.rCmp ((p0.bel g0).bel ((((((((((((((((Bel.refl _).trans b1).trans b2).alloc (.cells #[.bool (dneg u1), .slice A2 (digs (dm u1)).length c2, .int .i64 (de u1)] 24)).trans b3).trans b4).alloc (.cells #[.bool (dneg u2), .slice A4 (digs (dm u2)).length c4, .int .i64 (de u2)] 24)).trans b5).trans b6).alloc (.cells #[.bool (dneg hh), .slice A6 (digs (dm hh)).length c6, .int .i64 (de hh)] 24)).trans b7).trans b8).trans b9).trans b10).trans b11).trans b12)) (n6.bel ((((((((Bel.refl _).alloc (.cells #[.bool (dneg hh), .slice A6 (digs (dm hh)).length c6, .int .i64 (de hh)] 24)).trans b7).trans b8).trans b9).trans b10).trans b11).trans b12)) (by omega) (by omega) (r := ch) HCH.out).mono ?_); rintro e w13 ⟨rfl, b13⟩
    clear yB3_12_0 yB3_12_1 yB3_12_2 yB11_12_0 yB11_12_1 yB11_12_2
    have KB3_13 := Ho.mk ((KB3_12.out.bel ((Bel.refl _).trans b13)))
    have yB3_13_0 := KB3_13.out.cell (i := 0) rfl
    have yB3_13_1 := KB3_13.out.cell (i := 1) rfl
    have yB3_13_2 := KB3_13.out.cell (i := 2) rfl
    have KB11_13 := Ho.mk ((KB11_12.out.bel ((Bel.refl _).trans b13)))
    have yB11_13_0 := KB11_13.out.cell (i := 0) rfl
    have yB11_13_1 := KB11_13.out.cell (i := 1) rfl
    have yB11_13_2 := KB11_13.out.cell (i := 2) rfl
    go_wp2_with fail
    (with_reducible refine (F1.rCmp ((p0.bel g0).bel (((((((((((((((((Bel.refl _).trans b1).trans b2).alloc (.cells #[.bool (dneg u1), .slice A2 (digs (dm u1)).length c2, .int .i64 (de u1)] 24)).trans b3).trans b4).alloc (.cells #[.bool (dneg u2), .slice A4 (digs (dm u2)).length c4, .int .i64 (de u2)] 24)).trans b5).trans b6).alloc (.cells #[.bool (dneg hh), .slice A6 (digs (dm hh)).length c6, .int .i64 (de hh)] 24)).trans b7).trans b8).trans b9).trans b10).trans b11).trans b12).trans b13)) (n6.bel (((((((((Bel.refl _).alloc (.cells #[.bool (dneg hh), .slice A6 (digs (dm hh)).length c6, .int .i64 (de hh)] 24)).trans b7).trans b8).trans b9).trans b10).trans b11).trans b12).trans b13)) (by omega) (by omega) (r := ch) HCH.out).mono ?_); rintro e w14 ⟨rfl, b14⟩
    clear yB3_13_0 yB3_13_1 yB3_13_2 yB11_13_0 yB11_13_1 yB11_13_2
    all_goals
      have HE := Ho.mk (g0.trans ((((((((((((((((((Bel.refl _).trans b1).trans b2).alloc (.cells #[.bool (dneg u1), .slice A2 (digs (dm u1)).length c2, .int .i64 (de u1)] 24)).trans b3).trans b4).alloc (.cells #[.bool (dneg u2), .slice A4 (digs (dm u2)).length c4, .int .i64 (de u2)] 24)).trans b5).trans b6).alloc (.cells #[.bool (dneg hh), .slice A6 (digs (dm hh)).length c6, .int .i64 (de hh)] 24)).trans b7).trans b8).trans b9).trans b10).trans b11).trans b12).trans b13).trans b14))
      go_wp2
      go_ret
      exact ⟨rfl, HE.out⟩
set_option maxRecDepth 100000 in
set_option maxHeartbeats 8000000 in
theorem next_p5 {A0 : Option Addr} {c0 : Nat} {v0 : Int} {f g : Nat} {u1 u2 : Int} {k1 k2 : Bool} (w : World) (T : Tab w) (p0 : Dv w A0 c0 v0 3000 3480) (hf : f < 2 * sgnW) (hg : g < 2 * sgnW) (hx : nxw f = g)
    (hv1 : u1 = if frung f < infR then fv f else 0) (hk1 : k1 = decide (frung f < infR)) (hv2 : u2 = if frung g < infR then fv g else 0) (hk2 : k2 = decide (frung g < infR)) (hgd : H1.goodB (dneg v0) (digs (dm v0)) (de v0) = true) (e1 : k1 = true) (e2 : k2 = true) (q0 : (FloatKind.f64.format.order g f == some .gt) = true) (nh : Nat) (hnh : nw (shiftD (u1 + u2) (-1)) = nh)
    (hq : (FloatKind.f64.format.order nh f != some .eq) = false ∨ ((FloatKind.f64.format.order nh f != some .eq) = true ∧ (FloatKind.f64.format.order nh g != some .eq) = false))
    (nd : Nat) (cu ct ch : Int) (hcu : cmpI v0 u1 = cu) (hct : cmpI v0 u2 = ct) (hch : cmpI v0 (shiftD (u1 + u2) (-1)) = ch) (hnd : nw v0 = nd) (dcu0 : decide (cu < 0) = false) (dcu1 : decide (0 < cu) = true) (dcu2 : decide (cu ≤ 0) = false) (dcu3 : decide (0 ≤ cu) = true) (dct0 : decide (ct < 0) = true) (dct1 : decide (0 < ct) = false) (dct2 : decide (ct ≤ 0) = true) (dct3 : decide (0 ≤ ct) = false) (dch0 : decide (ch < 0) = false) (dch1 : decide (0 < ch) = true) (dch2 : decide (ch ≤ 0) = false) (dch3 : decide (0 ≤ ch) = true) (x1 : (FloatKind.f64.format.order nd f == some .eq) = false) (x2 : (FloatKind.f64.format.order nd g == some .eq) = true) :
    Calls Tryd.prog 13 #[.float .f64 f, .agg #[.bool (dneg v0), .slice A0 (digs (dm v0)).length c0, .int .i64 (de v0)]] w (Tells w (.bool true)) := by
  have TT := Ho.mk T
  have HF := Ho.mk hf
  have HX := Ho.mk hx
  have HO1 := Ho.mk (fun (W : World) (gw : Bel w W) => ofD (b := f) hf W (T.bel gw) (v := u1) (ok := k1) hv1 hk1)
  have HO2 := Ho.mk (fun (W : World) (gw : Bel w W) => ofD (b := g) hg W (T.bel gw) (v := u2) (ok := k2) hv2 hk2)
  have HG := Ho.mk (fun (W : World) (gw : Bel w W) => goodT (dneg v0) A0 c0 (digs (dm v0)) (de v0) W (p0.rd.bel gw) hgd)
  subst e1 e2
  obtain ⟨hh, hhh⟩ : ∃ h, shiftD (u1 + u2) (-1) = h := ⟨_, rfl⟩
  have HHH := Ho.mk hhh
  rw [hhh] at hnh
  have HNH := Ho.mk hnh
  rw [hhh] at hch
  have HCU := Ho.mk hcu
  have HCT := Ho.mk hct
  have HCH := Ho.mk hch
  have HND := Ho.mk hnd
  clear hcu hct hch hnd
  clear T hf hg hx hv1 hk1 hv2 hk2 hgd hhh hnh
  rcases hq with q1 | ⟨q1, q2⟩
  all_goals
    go_enter Tryd.func13, Tryd.ntmps13
    go_wp2_with fail
    have KB0 := Ho.mk (Blk.new w [.bool (dneg v0), .slice A0 (digs (dm v0)).length c0, .int .i64 (de v0)] 24)
    have g0 := (Bel.refl w).alloc (.cells #[.bool (dneg v0), .slice A0 (digs (dm v0)).length c0, .int .i64 (de v0)] 24)
    have hZ : (w.alloc (.cells #[.bool (dneg v0), .slice A0 (digs (dm v0)).length c0, .int .i64 (de v0)] 24)) = (w.alloc (.cells #[.bool (dneg v0), .slice A0 (digs (dm v0)).length c0, .int .i64 (de v0)] 24)) := rfl
    generalize (w.alloc (.cells #[.bool (dneg v0), .slice A0 (digs (dm v0)).length c0, .int .i64 (de v0)] 24)) = w0 at *
    clear hZ
    (with_reducible refine (headT _ (TT.out.bel (g0.trans (Bel.refl _)))).mono ?_); rintro e w1 ⟨rfl, b1⟩
    go_wp2_with fail
    (with_reducible refine (HO1.out _ (g0.trans ((Bel.refl _).trans b1))).mono ?_); rintro e w2 ⟨A2, c2, rfl, n2, b2⟩
    have KB6 := Ho.mk (Blk.new w2 [.bool (dneg u1), .slice A2 (digs (dm u1)).length c2, .int .i64 (de u1)] 24)
    go_wp2_with fail
    (with_reducible refine (nextT HF.out _ HX.out).mono ?_); rintro e w3 ⟨rfl, b3⟩
    go_wp2_with fail
    (with_reducible refine (HO2.out _ (g0.trans (((((Bel.refl _).trans b1).trans b2).alloc (.cells #[.bool (dneg u1), .slice A2 (digs (dm u1)).length c2, .int .i64 (de u1)] 24)).trans b3))).mono ?_); rintro e w4 ⟨A4, c4, rfl, n4, b4⟩
    have KB9 := Ho.mk (Blk.new w4 [.bool (dneg u2), .slice A4 (digs (dm u2)).length c4, .int .i64 (de u2)] 24)
    have KB6_4x := Ho.mk ((KB6.out.bel ((((Bel.refl _).trans b3).trans b4).alloc (.cells #[.bool (dneg u2), .slice A4 (digs (dm u2)).length c4, .int .i64 (de u2)] 24))))
    have yB6_4x_0 := KB6_4x.out.cell (i := 0) rfl
    have yB6_4x_1 := KB6_4x.out.cell (i := 1) rfl
    have yB6_4x_2 := KB6_4x.out.cell (i := 2) rfl
    have KB9_4x := Ho.mk (KB9.out)
    have yB9_4x_0 := KB9_4x.out.cell (i := 0) rfl
    have yB9_4x_1 := KB9_4x.out.cell (i := 1) rfl
    have yB9_4x_2 := KB9_4x.out.cell (i := 2) rfl
    go_wp2_with fail
    (with_reducible refine (F1.rAdd (n2.bel (((((Bel.refl _).alloc (.cells #[.bool (dneg u1), .slice A2 (digs (dm u1)).length c2, .int .i64 (de u1)] 24)).trans b3).trans b4).alloc (.cells #[.bool (dneg u2), .slice A4 (digs (dm u2)).length c4, .int .i64 (de u2)] 24))) (n4.bel ((Bel.refl _).alloc (.cells #[.bool (dneg u2), .slice A4 (digs (dm u2)).length c4, .int .i64 (de u2)] 24))) (by omega) (by omega)).mono ?_); rintro e w5 ⟨A5, c5, rfl, n5, b5⟩
    clear yB6_4x_0 yB6_4x_1 yB6_4x_2 yB9_4x_0 yB9_4x_1 yB9_4x_2
    go_wp2_with fail
    (with_reducible refine (H9.rShiftE n5 HHH.out (by omega) (by omega)).mono ?_); rintro e w6 ⟨A6, c6, rfl, n6, b6⟩
    have KB11 := Ho.mk (Blk.new w6 [.bool (dneg hh), .slice A6 (digs (dm hh)).length c6, .int .i64 (de hh)] 24)
    have KB11_6x := Ho.mk (KB11.out)
    have yB11_6x_0 := KB11_6x.out.cell (i := 0) rfl
    have yB11_6x_1 := KB11_6x.out.cell (i := 1) rfl
    have yB11_6x_2 := KB11_6x.out.cell (i := 2) rfl
    go_wp2_with fail
    (with_reducible refine (nearD (n6.bel ((Bel.refl _).alloc (.cells #[.bool (dneg hh), .slice A6 (digs (dm hh)).length c6, .int .i64 (de hh)] 24))) (by omega) (by omega) (r := nh) HNH.out).mono ?_); rintro e w7 ⟨rfl, b7⟩
    clear yB11_6x_0 yB11_6x_1 yB11_6x_2
    have KB3_7 := Ho.mk ((KB0.out.bel (((((((((((Bel.refl _).trans b1).trans b2).alloc (.cells #[.bool (dneg u1), .slice A2 (digs (dm u1)).length c2, .int .i64 (de u1)] 24)).trans b3).trans b4).alloc (.cells #[.bool (dneg u2), .slice A4 (digs (dm u2)).length c4, .int .i64 (de u2)] 24)).trans b5).trans b6).alloc (.cells #[.bool (dneg hh), .slice A6 (digs (dm hh)).length c6, .int .i64 (de hh)] 24)).trans b7)))
    have yB3_7_0 := KB3_7.out.cell (i := 0) rfl
    have yB3_7_1 := KB3_7.out.cell (i := 1) rfl
    have yB3_7_2 := KB3_7.out.cell (i := 2) rfl
    go_wp2_with fail
    (with_reducible refine ((HG.out _ (g0.trans (((((((((((Bel.refl _).trans b1).trans b2).alloc (.cells #[.bool (dneg u1), .slice A2 (digs (dm u1)).length c2, .int .i64 (de u1)] 24)).trans b3).trans b4).alloc (.cells #[.bool (dneg u2), .slice A4 (digs (dm u2)).length c4, .int .i64 (de u2)] 24)).trans b5).trans b6).alloc (.cells #[.bool (dneg hh), .slice A6 (digs (dm hh)).length c6, .int .i64 (de hh)] 24)).trans b7)))).mono ?_); rintro e w8 ⟨rfl, b8⟩
    clear yB3_7_0 yB3_7_1 yB3_7_2
    have KB3_8 := Ho.mk ((KB3_7.out.bel ((Bel.refl _).trans b8)))
    have yB3_8_0 := KB3_8.out.cell (i := 0) rfl
    have yB3_8_1 := KB3_8.out.cell (i := 1) rfl
    have yB3_8_2 := KB3_8.out.cell (i := 2) rfl
    go_wp2_with fail
    (with_reducible refine (nearD ((p0.bel g0).bel ((((((((((((Bel.refl _).trans b1).trans b2).alloc (.cells #[.bool (dneg u1), .slice A2 (digs (dm u1)).length c2, .int .i64 (de u1)] 24)).trans b3).trans b4).alloc (.cells #[.bool (dneg u2), .slice A4 (digs (dm u2)).length c4, .int .i64 (de u2)] 24)).trans b5).trans b6).alloc (.cells #[.bool (dneg hh), .slice A6 (digs (dm hh)).length c6, .int .i64 (de hh)] 24)).trans b7).trans b8)) (by omega) (by omega) (r := nd) HND.out).mono ?_); rintro e w9 ⟨rfl, b9⟩
    clear yB3_8_0 yB3_8_1 yB3_8_2
    have KB3_9 := Ho.mk ((KB3_8.out.bel ((Bel.refl _).trans b9)))
    have yB3_9_0 := KB3_9.out.cell (i := 0) rfl
    have yB3_9_1 := KB3_9.out.cell (i := 1) rfl
    have yB3_9_2 := KB3_9.out.cell (i := 2) rfl
    have KB6_9 := Ho.mk ((KB6_4x.out.bel (((((((Bel.refl _).trans b5).trans b6).alloc (.cells #[.bool (dneg hh), .slice A6 (digs (dm hh)).length c6, .int .i64 (de hh)] 24)).trans b7).trans b8).trans b9)))
    have yB6_9_0 := KB6_9.out.cell (i := 0) rfl
    have yB6_9_1 := KB6_9.out.cell (i := 1) rfl
    have yB6_9_2 := KB6_9.out.cell (i := 2) rfl
    go_wp2_with fail
    (with_reducible refine (F1.rCmp ((p0.bel g0).bel (((((((((((((Bel.refl _).trans b1).trans b2).alloc (.cells #[.bool (dneg u1), .slice A2 (digs (dm u1)).length c2, .int .i64 (de u1)] 24)).trans b3).trans b4).alloc (.cells #[.bool (dneg u2), .slice A4 (digs (dm u2)).length c4, .int .i64 (de u2)] 24)).trans b5).trans b6).alloc (.cells #[.bool (dneg hh), .slice A6 (digs (dm hh)).length c6, .int .i64 (de hh)] 24)).trans b7).trans b8).trans b9)) (n2.bel (((((((((((Bel.refl _).alloc (.cells #[.bool (dneg u1), .slice A2 (digs (dm u1)).length c2, .int .i64 (de u1)] 24)).trans b3).trans b4).alloc (.cells #[.bool (dneg u2), .slice A4 (digs (dm u2)).length c4, .int .i64 (de u2)] 24)).trans b5).trans b6).alloc (.cells #[.bool (dneg hh), .slice A6 (digs (dm hh)).length c6, .int .i64 (de hh)] 24)).trans b7).trans b8).trans b9)) (by omega) (by omega) (r := cu) HCU.out).mono ?_); rintro e w10 ⟨rfl, b10⟩
    clear yB3_9_0 yB3_9_1 yB3_9_2 yB6_9_0 yB6_9_1 yB6_9_2
    have KB3_10 := Ho.mk ((KB3_9.out.bel ((Bel.refl _).trans b10)))
    have yB3_10_0 := KB3_10.out.cell (i := 0) rfl
    have yB3_10_1 := KB3_10.out.cell (i := 1) rfl
    have yB3_10_2 := KB3_10.out.cell (i := 2) rfl
    have KB9_10 := Ho.mk ((KB9_4x.out.bel ((((((((Bel.refl _).trans b5).trans b6).alloc (.cells #[.bool (dneg hh), .slice A6 (digs (dm hh)).length c6, .int .i64 (de hh)] 24)).trans b7).trans b8).trans b9).trans b10)))
    have yB9_10_0 := KB9_10.out.cell (i := 0) rfl
    have yB9_10_1 := KB9_10.out.cell (i := 1) rfl
    have yB9_10_2 := KB9_10.out.cell (i := 2) rfl
    go_wp2_with fail
    (with_reducible refine (F1.rCmp ((p0.bel g0).bel ((((((((((((((Bel.refl _).trans b1).trans b2).alloc (.cells #[.bool (dneg u1), .slice A2 (digs (dm u1)).length c2, .int .i64 (de u1)] 24)).trans b3).trans b4).alloc (.cells #[.bool (dneg u2), .slice A4 (digs (dm u2)).length c4, .int .i64 (de u2)] 24)).trans b5).trans b6).alloc (.cells #[.bool (dneg hh), .slice A6 (digs (dm hh)).length c6, .int .i64 (de hh)] 24)).trans b7).trans b8).trans b9).trans b10)) (n4.bel (((((((((Bel.refl _).alloc (.cells #[.bool (dneg u2), .slice A4 (digs (dm u2)).length c4, .int .i64 (de u2)] 24)).trans b5).trans b6).alloc (.cells #[.bool (dneg hh), .slice A6 (digs (dm hh)).length c6, .int .i64 (de hh)] 24)).trans b7).trans b8).trans b9).trans b10)) (by omega) (by omega) (r := ct) HCT.out).mono ?_); rintro e w11 ⟨rfl, b11⟩
    clear yB3_10_0 yB3_10_1 yB3_10_2 yB9_10_0 yB9_10_1 yB9_10_2
    have KB3_11 := Ho.mk ((KB3_10.out.bel ((Bel.refl _).trans b11)))
    have yB3_11_0 := KB3_11.out.cell (i := 0) rfl
    have yB3_11_1 := KB3_11.out.cell (i := 1) rfl
    have yB3_11_2 := KB3_11.out.cell (i := 2) rfl
    have KB6_11 := Ho.mk ((KB6_9.out.bel (((Bel.refl _).trans b10).trans b11)))
    have yB6_11_0 := KB6_11.out.cell (i := 0) rfl
    have yB6_11_1 := KB6_11.out.cell (i := 1) rfl
    have yB6_11_2 := KB6_11.out.cell (i := 2) rfl
    go_wp2_with fail
    (with_reducible refine (F1.rCmp ((p0.bel g0).bel (((((((((((((((Bel.refl _).trans b1).trans b2).alloc (.cells #[.bool (dneg u1), .slice A2 (digs (dm u1)).length c2, .int .i64 (de u1)] 24)).trans b3).trans b4).alloc (.cells #[.bool (dneg u2), .slice A4 (digs (dm u2)).length c4, .int .i64 (de u2)] 24)).trans b5).trans b6).alloc (.cells #[.bool (dneg hh), .slice A6 (digs (dm hh)).length c6, .int .i64 (de hh)] 24)).trans b7).trans b8).trans b9).trans b10).trans b11)) (n2.bel (((((((((((((Bel.refl _).alloc (.cells #[.bool (dneg u1), .slice A2 (digs (dm u1)).length c2, .int .i64 (de u1)] 24)).trans b3).trans b4).alloc (.cells #[.bool (dneg u2), .slice A4 (digs (dm u2)).length c4, .int .i64 (de u2)] 24)).trans b5).trans b6).alloc (.cells #[.bool (dneg hh), .slice A6 (digs (dm hh)).length c6, .int .i64 (de hh)] 24)).trans b7).trans b8).trans b9).trans b10).trans b11)) (by omega) (by omega) (r := cu) HCU.out).mono ?_); rintro e w12 ⟨rfl, b12⟩
    clear yB3_11_0 yB3_11_1 yB3_11_2 yB6_11_0 yB6_11_1 yB6_11_2
    have KB3_12 := Ho.mk ((KB3_11.out.bel ((Bel.refl _).trans b12)))
    have yB3_12_0 := KB3_12.out.cell (i := 0) rfl
    have yB3_12_1 := KB3_12.out.cell (i := 1) rfl
    have yB3_12_2 := KB3_12.out.cell (i := 2) rfl
    have KB11_12 := Ho.mk ((KB11_6x.out.bel (((((((Bel.refl _).trans b7).trans b8).trans b9).trans b10).trans b11).trans b12)))
    have yB11_12_0 := KB11_12.out.cell (i := 0) rfl
    have yB11_12_1 := KB11_12.out.cell (i := 1) rfl
    have yB11_12_2 := KB11_12.out.cell (i := 2) rfl
    go_wp2_with fail
    (with_reducible refine (F1.rCmp ((p0.bel g0).bel ((((((((((((((((Bel.refl _).trans b1).trans b2).alloc (.cells #[.bool (dneg u1), .slice A2 (digs (dm u1)).length c2, .int .i64 (de u1)] 24)).trans b3).trans b4).alloc (.cells #[.bool (dneg u2), .slice A4 (digs (dm u2)).length c4, .int .i64 (de u2)] 24)).trans b5).trans b6).alloc (.cells #[.bool (dneg hh), .slice A6 (digs (dm hh)).length c6, .int .i64 (de hh)] 24)).trans b7).trans b8).trans b9).trans b10).trans b11).trans b12)) (n6.bel ((((((((Bel.refl _).alloc (.cells #[.bool (dneg hh), .slice A6 (digs (dm hh)).length c6, .int .i64 (de hh)] 24)).trans b7).trans b8).trans b9).trans b10).trans b11).trans b12)) (by omega) (by omega) (r := ch) HCH.out).mono ?_); rintro e w13 ⟨rfl, b13⟩
    clear yB3_12_0 yB3_12_1 yB3_12_2 yB11_12_0 yB11_12_1 yB11_12_2
    have KB3_13 := Ho.mk ((KB3_12.out.bel ((Bel.refl _).trans b13)))
    have yB3_13_0 := KB3_13.out.cell (i := 0) rfl
    have yB3_13_1 := KB3_13.out.cell (i := 1) rfl
    have yB3_13_2 := KB3_13.out.cell (i := 2) rfl
    have KB11_13 := Ho.mk ((KB11_12.out.bel ((Bel.refl _).trans b13)))
    have yB11_13_0 := KB11_13.out.cell (i := 0) rfl
    have yB11_13_1 := KB11_13.out.cell (i := 1) rfl
    have yB11_13_2 := KB11_13.out.cell (i := 2) rfl
    go_wp2_with fail
    (with_reducible refine (F1.rCmp ((p0.bel g0).bel (((((((((((((((((Bel.refl _).trans b1).trans b2).alloc (.cells #[.bool (dneg u1), .slice A2 (digs (dm u1)).length c2, .int .i64 (de u1)] 24)).trans b3).trans b4).alloc (.cells #[.bool (dneg u2), .slice A4 (digs (dm u2)).length c4, .int .i64 (de u2)] 24)).trans b5).trans b6).alloc (.cells #[.bool (dneg hh), .slice A6 (digs (dm hh)).length c6, .int .i64 (de hh)] 24)).trans b7).trans b8).trans b9).trans b10).trans b11).trans b12).trans b13)) (n6.bel (((((((((Bel.refl _).alloc (.cells #[.bool (dneg hh), .slice A6 (digs (dm hh)).length c6, .int .i64 (de hh)] 24)).trans b7).trans b8).trans b9).trans b10).trans b11).trans b12).trans b13)) (by omega) (by omega) (r := ch) HCH.out).mono ?_); rintro e w14 ⟨rfl, b14⟩
    clear yB3_13_0 yB3_13_1 yB3_13_2 yB11_13_0 yB11_13_1 yB11_13_2
    have KB3_14 := Ho.mk ((KB3_13.out.bel ((Bel.refl _).trans b14)))
    have yB3_14_0 := KB3_14.out.cell (i := 0) rfl
    have yB3_14_1 := KB3_14.out.cell (i := 1) rfl
    have yB3_14_2 := KB3_14.out.cell (i := 2) rfl
    have KB9_14 := Ho.mk ((KB9_10.out.bel (((((Bel.refl _).trans b11).trans b12).trans b13).trans b14)))
    have yB9_14_0 := KB9_14.out.cell (i := 0) rfl
    have yB9_14_1 := KB9_14.out.cell (i := 1) rfl
    have yB9_14_2 := KB9_14.out.cell (i := 2) rfl
    go_wp2_with fail
    (with_reducible refine (F1.rCmp ((p0.bel g0).bel ((((((((((((((((((Bel.refl _).trans b1).trans b2).alloc (.cells #[.bool (dneg u1), .slice A2 (digs (dm u1)).length c2, .int .i64 (de u1)] 24)).trans b3).trans b4).alloc (.cells #[.bool (dneg u2), .slice A4 (digs (dm u2)).length c4, .int .i64 (de u2)] 24)).trans b5).trans b6).alloc (.cells #[.bool (dneg hh), .slice A6 (digs (dm hh)).length c6, .int .i64 (de hh)] 24)).trans b7).trans b8).trans b9).trans b10).trans b11).trans b12).trans b13).trans b14)) (n4.bel (((((((((((((Bel.refl _).alloc (.cells #[.bool (dneg u2), .slice A4 (digs (dm u2)).length c4, .int .i64 (de u2)] 24)).trans b5).trans b6).alloc (.cells #[.bool (dneg hh), .slice A6 (digs (dm hh)).length c6, .int .i64 (de hh)] 24)).trans b7).trans b8).trans b9).trans b10).trans b11).trans b12).trans b13).trans b14)) (by omega) (by omega) (r := ct) HCT.out).mono ?_); rintro e w15 ⟨rfl, b15⟩
    clear yB3_14_0 yB3_14_1 yB3_14_2 yB9_14_0 yB9_14_1 yB9_14_2
    all_goals
      have HE := Ho.mk (g0.trans (((((((((((((((((((Bel.refl _).trans b1).trans b2).alloc (.cells #[.bool (dneg u1), .slice A2 (digs (dm u1)).length c2, .int .i64 (de u1)] 24)).trans b3).trans b4).alloc (.cells #[.bool (dneg u2), .slice A4 (digs (dm u2)).length c4, .int .i64 (de u2)] 24)).trans b5).trans b6).alloc (.cells #[.bool (dneg hh), .slice A6 (digs (dm hh)).length c6, .int .i64 (de hh)] 24)).trans b7).trans b8).trans b9).trans b10).trans b11).trans b12).trans b13).trans b14).trans b15))
      go_wp2
      go_ret
      exact ⟨rfl, HE.out⟩
set_option maxRecDepth 100000 in
set_option maxHeartbeats 8000000 in
theorem next_p6 {A0 : Option Addr} {c0 : Nat} {v0 : Int} {f g : Nat} {u1 u2 : Int} {k1 k2 : Bool} (w : World) (T : Tab w) (p0 : Dv w A0 c0 v0 3000 3480) (hf : f < 2 * sgnW) (hg : g < 2 * sgnW) (hx : nxw f = g)
    (hv1 : u1 = if frung f < infR then fv f else 0) (hk1 : k1 = decide (frung f < infR)) (hv2 : u2 = if frung g < infR then fv g else 0) (hk2 : k2 = decide (frung g < infR)) (hgd : H1.goodB (dneg v0) (digs (dm v0)) (de v0) = true) (e1 : k1 = true) (e2 : k2 = true) (q0 : (FloatKind.f64.format.order g f == some .gt) = true) (nh : Nat) (hnh : nw (shiftD (u1 + u2) (-1)) = nh)
    (hq : (FloatKind.f64.format.order nh f != some .eq) = false ∨ ((FloatKind.f64.format.order nh f != some .eq) = true ∧ (FloatKind.f64.format.order nh g != some .eq) = false))
    (nd : Nat) (cu ct ch : Int) (hcu : cmpI v0 u1 = cu) (hct : cmpI v0 u2 = ct) (hch : cmpI v0 (shiftD (u1 + u2) (-1)) = ch) (hnd : nw v0 = nd) (dcu0 : decide (cu < 0) = false) (dcu1 : decide (0 < cu) = true) (dcu2 : decide (cu ≤ 0) = false) (dcu3 : decide (0 ≤ cu) = true) (dct0 : decide (ct < 0) = false) (dct1 : decide (0 < ct) = false) (dct2 : decide (ct ≤ 0) = true) (dct3 : decide (0 ≤ ct) = true) (dch0 : decide (ch < 0) = false) (dch1 : decide (0 < ch) = true) (dch2 : decide (ch ≤ 0) = false) (dch3 : decide (0 ≤ ch) = true) (x1 : (FloatKind.f64.format.order nd f == some .eq) = false) (x2 : (FloatKind.f64.format.order nd g == some .eq) = true) :
    Calls Tryd.prog 13 #[.float .f64 f, .agg #[.bool (dneg v0), .slice A0 (digs (dm v0)).length c0, .int .i64 (de v0)]] w (Tells w (.bool true)) := by
  have TT := Ho.mk T
  have HF := Ho.mk hf
  have HX := Ho.mk hx
  have HO1 := Ho.mk (fun (W : World) (gw : Bel w W) => ofD (b := f) hf W (T.bel gw) (v := u1) (ok := k1) hv1 hk1)
  have HO2 := Ho.mk (fun (W : World) (gw : Bel w W) => ofD (b := g) hg W (T.bel gw) (v := u2) (ok := k2) hv2 hk2)
  have HG := Ho.mk (fun (W : World) (gw : Bel w W) => goodT (dneg v0) A0 c0 (digs (dm v0)) (de v0) W (p0.rd.bel gw) hgd)
  subst e1 e2
  obtain ⟨hh, hhh⟩ : ∃ h, shiftD (u1 + u2) (-1) = h := ⟨_, rfl⟩
  have HHH := Ho.mk hhh
  rw [hhh] at hnh
  have HNH := Ho.mk hnh
  rw [hhh] at hch
  have HCU := Ho.mk hcu
  have HCT := Ho.mk hct
  have HCH := Ho.mk hch
  have HND := Ho.mk hnd
  clear hcu hct hch hnd
  clear T hf hg hx hv1 hk1 hv2 hk2 hgd hhh hnh
  rcases hq with q1 | ⟨q1, q2⟩
  all_goals
    go_enter Tryd.func13, Tryd.ntmps13
    go_wp2_with fail
    have KB0 := Ho.mk (Blk.new w [.bool (dneg v0), .slice A0 (digs (dm v0)).length c0, .int .i64 (de v0)] 24)
    have g0 := (Bel.refl w).alloc (.cells #[.bool (dneg v0), .slice A0 (digs (dm v0)).length c0, .int .i64 (de v0)] 24)
    have hZ : (w.alloc (.cells #[.bool (dneg v0), .slice A0 (digs (dm v0)).length c0, .int .i64 (de v0)] 24)) = (w.alloc (.cells #[.bool (dneg v0), .slice A0 (digs (dm v0)).length c0, .int .i64 (de v0)] 24)) := rfl
    generalize (w.alloc (.cells #[.bool (dneg v0), .slice A0 (digs (dm v0)).length c0, .int .i64 (de v0)] 24)) = w0 at *
    clear hZ
    (with_reducible refine (headT _ (TT.out.bel (g0.trans (Bel.refl _)))).mono ?_); rintro e w1 ⟨rfl, b1⟩
    go_wp2_with fail
    (with_reducible refine (HO1.out _ (g0.trans ((Bel.refl _).trans b1))).mono ?_); rintro e w2 ⟨A2, c2, rfl, n2, b2⟩
    have KB6 := Ho.mk (Blk.new w2 [.bool (dneg u1), .slice A2 (digs (dm u1)).length c2, .int .i64 (de u1)] 24)
    go_wp2_with fail
    (with_reducible refine (nextT HF.out _ HX.out).mono ?_); rintro e w3 ⟨rfl, b3⟩
    go_wp2_with fail
    (with_reducible refine (HO2.out _ (g0.trans (((((Bel.refl _).trans b1).trans b2).alloc (.cells #[.bool (dneg u1), .slice A2 (digs (dm u1)).length c2, .int .i64 (de u1)] 24)).trans b3))).mono ?_); rintro e w4 ⟨A4, c4, rfl, n4, b4⟩
    have KB9 := Ho.mk (Blk.new w4 [.bool (dneg u2), .slice A4 (digs (dm u2)).length c4, .int .i64 (de u2)] 24)
    have KB6_4x := Ho.mk ((KB6.out.bel ((((Bel.refl _).trans b3).trans b4).alloc (.cells #[.bool (dneg u2), .slice A4 (digs (dm u2)).length c4, .int .i64 (de u2)] 24))))
    have yB6_4x_0 := KB6_4x.out.cell (i := 0) rfl
    have yB6_4x_1 := KB6_4x.out.cell (i := 1) rfl
    have yB6_4x_2 := KB6_4x.out.cell (i := 2) rfl
    have KB9_4x := Ho.mk (KB9.out)
    have yB9_4x_0 := KB9_4x.out.cell (i := 0) rfl
    have yB9_4x_1 := KB9_4x.out.cell (i := 1) rfl
    have yB9_4x_2 := KB9_4x.out.cell (i := 2) rfl
    go_wp2_with fail
    (with_reducible refine (F1.rAdd (n2.bel (((((Bel.refl _).alloc (.cells #[.bool (dneg u1), .slice A2 (digs (dm u1)).length c2, .int .i64 (de u1)] 24)).trans b3).trans b4).alloc (.cells #[.bool (dneg u2), .slice A4 (digs (dm u2)).length c4, .int .i64 (de u2)] 24))) (n4.bel ((Bel.refl _).alloc (.cells #[.bool (dneg u2), .slice A4 (digs (dm u2)).length c4, .int .i64 (de u2)] 24))) (by omega) (by omega)).mono ?_); rintro e w5 ⟨A5, c5, rfl, n5, b5⟩
    clear yB6_4x_0 yB6_4x_1 yB6_4x_2 yB9_4x_0 yB9_4x_1 yB9_4x_2
    go_wp2_with fail
    (with_reducible refine (H9.rShiftE n5 HHH.out (by omega) (by omega)).mono ?_); rintro e w6 ⟨A6, c6, rfl, n6, b6⟩
    have KB11 := Ho.mk (Blk.new w6 [.bool (dneg hh), .slice A6 (digs (dm hh)).length c6, .int .i64 (de hh)] 24)
    have KB11_6x := Ho.mk (KB11.out)
    have yB11_6x_0 := KB11_6x.out.cell (i := 0) rfl
    have yB11_6x_1 := KB11_6x.out.cell (i := 1) rfl
    have yB11_6x_2 := KB11_6x.out.cell (i := 2) rfl
    go_wp2_with fail
    (with_reducible refine (nearD (n6.bel ((Bel.refl _).alloc (.cells #[.bool (dneg hh), .slice A6 (digs (dm hh)).length c6, .int .i64 (de hh)] 24))) (by omega) (by omega) (r := nh) HNH.out).mono ?_); rintro e w7 ⟨rfl, b7⟩
    clear yB11_6x_0 yB11_6x_1 yB11_6x_2
    have KB3_7 := Ho.mk ((KB0.out.bel (((((((((((Bel.refl _).trans b1).trans b2).alloc (.cells #[.bool (dneg u1), .slice A2 (digs (dm u1)).length c2, .int .i64 (de u1)] 24)).trans b3).trans b4).alloc (.cells #[.bool (dneg u2), .slice A4 (digs (dm u2)).length c4, .int .i64 (de u2)] 24)).trans b5).trans b6).alloc (.cells #[.bool (dneg hh), .slice A6 (digs (dm hh)).length c6, .int .i64 (de hh)] 24)).trans b7)))
    have yB3_7_0 := KB3_7.out.cell (i := 0) rfl
    have yB3_7_1 := KB3_7.out.cell (i := 1) rfl
    have yB3_7_2 := KB3_7.out.cell (i := 2) rfl
    go_wp2_with fail
    (with_reducible refine ((HG.out _ (g0.trans (((((((((((Bel.refl _).trans b1).trans b2).alloc (.cells #[.bool (dneg u1), .slice A2 (digs (dm u1)).length c2, .int .i64 (de u1)] 24)).trans b3).trans b4).alloc (.cells #[.bool (dneg u2), .slice A4 (digs (dm u2)).length c4, .int .i64 (de u2)] 24)).trans b5).trans b6).alloc (.cells #[.bool (dneg hh), .slice A6 (digs (dm hh)).length c6, .int .i64 (de hh)] 24)).trans b7)))).mono ?_); rintro e w8 ⟨rfl, b8⟩
    clear yB3_7_0 yB3_7_1 yB3_7_2
    have KB3_8 := Ho.mk ((KB3_7.out.bel ((Bel.refl _).trans b8)))
    have yB3_8_0 := KB3_8.out.cell (i := 0) rfl
    have yB3_8_1 := KB3_8.out.cell (i := 1) rfl
    have yB3_8_2 := KB3_8.out.cell (i := 2) rfl
    go_wp2_with fail
    (with_reducible refine (nearD ((p0.bel g0).bel ((((((((((((Bel.refl _).trans b1).trans b2).alloc (.cells #[.bool (dneg u1), .slice A2 (digs (dm u1)).length c2, .int .i64 (de u1)] 24)).trans b3).trans b4).alloc (.cells #[.bool (dneg u2), .slice A4 (digs (dm u2)).length c4, .int .i64 (de u2)] 24)).trans b5).trans b6).alloc (.cells #[.bool (dneg hh), .slice A6 (digs (dm hh)).length c6, .int .i64 (de hh)] 24)).trans b7).trans b8)) (by omega) (by omega) (r := nd) HND.out).mono ?_); rintro e w9 ⟨rfl, b9⟩
    clear yB3_8_0 yB3_8_1 yB3_8_2
    have KB3_9 := Ho.mk ((KB3_8.out.bel ((Bel.refl _).trans b9)))
    have yB3_9_0 := KB3_9.out.cell (i := 0) rfl
    have yB3_9_1 := KB3_9.out.cell (i := 1) rfl
    have yB3_9_2 := KB3_9.out.cell (i := 2) rfl
    have KB6_9 := Ho.mk ((KB6_4x.out.bel (((((((Bel.refl _).trans b5).trans b6).alloc (.cells #[.bool (dneg hh), .slice A6 (digs (dm hh)).length c6, .int .i64 (de hh)] 24)).trans b7).trans b8).trans b9)))
    have yB6_9_0 := KB6_9.out.cell (i := 0) rfl
    have yB6_9_1 := KB6_9.out.cell (i := 1) rfl
    have yB6_9_2 := KB6_9.out.cell (i := 2) rfl
    go_wp2_with fail
    (with_reducible refine (F1.rCmp ((p0.bel g0).bel (((((((((((((Bel.refl _).trans b1).trans b2).alloc (.cells #[.bool (dneg u1), .slice A2 (digs (dm u1)).length c2, .int .i64 (de u1)] 24)).trans b3).trans b4).alloc (.cells #[.bool (dneg u2), .slice A4 (digs (dm u2)).length c4, .int .i64 (de u2)] 24)).trans b5).trans b6).alloc (.cells #[.bool (dneg hh), .slice A6 (digs (dm hh)).length c6, .int .i64 (de hh)] 24)).trans b7).trans b8).trans b9)) (n2.bel (((((((((((Bel.refl _).alloc (.cells #[.bool (dneg u1), .slice A2 (digs (dm u1)).length c2, .int .i64 (de u1)] 24)).trans b3).trans b4).alloc (.cells #[.bool (dneg u2), .slice A4 (digs (dm u2)).length c4, .int .i64 (de u2)] 24)).trans b5).trans b6).alloc (.cells #[.bool (dneg hh), .slice A6 (digs (dm hh)).length c6, .int .i64 (de hh)] 24)).trans b7).trans b8).trans b9)) (by omega) (by omega) (r := cu) HCU.out).mono ?_); rintro e w10 ⟨rfl, b10⟩
    clear yB3_9_0 yB3_9_1 yB3_9_2 yB6_9_0 yB6_9_1 yB6_9_2
    have KB3_10 := Ho.mk ((KB3_9.out.bel ((Bel.refl _).trans b10)))
    have yB3_10_0 := KB3_10.out.cell (i := 0) rfl
    have yB3_10_1 := KB3_10.out.cell (i := 1) rfl
    have yB3_10_2 := KB3_10.out.cell (i := 2) rfl
    have KB9_10 := Ho.mk ((KB9_4x.out.bel ((((((((Bel.refl _).trans b5).trans b6).alloc (.cells #[.bool (dneg hh), .slice A6 (digs (dm hh)).length c6, .int .i64 (de hh)] 24)).trans b7).trans b8).trans b9).trans b10)))
    have yB9_10_0 := KB9_10.out.cell (i := 0) rfl
    have yB9_10_1 := KB9_10.out.cell (i := 1) rfl
    have yB9_10_2 := KB9_10.out.cell (i := 2) rfl
    go_wp2_with fail
    (with_reducible refine (F1.rCmp ((p0.bel g0).bel ((((((((((((((Bel.refl _).trans b1).trans b2).alloc (.cells #[.bool (dneg u1), .slice A2 (digs (dm u1)).length c2, .int .i64 (de u1)] 24)).trans b3).trans b4).alloc (.cells #[.bool (dneg u2), .slice A4 (digs (dm u2)).length c4, .int .i64 (de u2)] 24)).trans b5).trans b6).alloc (.cells #[.bool (dneg hh), .slice A6 (digs (dm hh)).length c6, .int .i64 (de hh)] 24)).trans b7).trans b8).trans b9).trans b10)) (n4.bel (((((((((Bel.refl _).alloc (.cells #[.bool (dneg u2), .slice A4 (digs (dm u2)).length c4, .int .i64 (de u2)] 24)).trans b5).trans b6).alloc (.cells #[.bool (dneg hh), .slice A6 (digs (dm hh)).length c6, .int .i64 (de hh)] 24)).trans b7).trans b8).trans b9).trans b10)) (by omega) (by omega) (r := ct) HCT.out).mono ?_); rintro e w11 ⟨rfl, b11⟩
    clear yB3_10_0 yB3_10_1 yB3_10_2 yB9_10_0 yB9_10_1 yB9_10_2
    have KB3_11 := Ho.mk ((KB3_10.out.bel ((Bel.refl _).trans b11)))
    have yB3_11_0 := KB3_11.out.cell (i := 0) rfl
    have yB3_11_1 := KB3_11.out.cell (i := 1) rfl
    have yB3_11_2 := KB3_11.out.cell (i := 2) rfl
    have KB6_11 := Ho.mk ((KB6_9.out.bel (((Bel.refl _).trans b10).trans b11)))
    have yB6_11_0 := KB6_11.out.cell (i := 0) rfl
    have yB6_11_1 := KB6_11.out.cell (i := 1) rfl
    have yB6_11_2 := KB6_11.out.cell (i := 2) rfl
    go_wp2_with fail
    (with_reducible refine (F1.rCmp ((p0.bel g0).bel (((((((((((((((Bel.refl _).trans b1).trans b2).alloc (.cells #[.bool (dneg u1), .slice A2 (digs (dm u1)).length c2, .int .i64 (de u1)] 24)).trans b3).trans b4).alloc (.cells #[.bool (dneg u2), .slice A4 (digs (dm u2)).length c4, .int .i64 (de u2)] 24)).trans b5).trans b6).alloc (.cells #[.bool (dneg hh), .slice A6 (digs (dm hh)).length c6, .int .i64 (de hh)] 24)).trans b7).trans b8).trans b9).trans b10).trans b11)) (n2.bel (((((((((((((Bel.refl _).alloc (.cells #[.bool (dneg u1), .slice A2 (digs (dm u1)).length c2, .int .i64 (de u1)] 24)).trans b3).trans b4).alloc (.cells #[.bool (dneg u2), .slice A4 (digs (dm u2)).length c4, .int .i64 (de u2)] 24)).trans b5).trans b6).alloc (.cells #[.bool (dneg hh), .slice A6 (digs (dm hh)).length c6, .int .i64 (de hh)] 24)).trans b7).trans b8).trans b9).trans b10).trans b11)) (by omega) (by omega) (r := cu) HCU.out).mono ?_); rintro e w12 ⟨rfl, b12⟩
    clear yB3_11_0 yB3_11_1 yB3_11_2 yB6_11_0 yB6_11_1 yB6_11_2
    have KB3_12 := Ho.mk ((KB3_11.out.bel ((Bel.refl _).trans b12)))
    have yB3_12_0 := KB3_12.out.cell (i := 0) rfl
    have yB3_12_1 := KB3_12.out.cell (i := 1) rfl
    have yB3_12_2 := KB3_12.out.cell (i := 2) rfl
    have KB11_12 := Ho.mk ((KB11_6x.out.bel (((((((Bel.refl _).trans b7).trans b8).trans b9).trans b10).trans b11).trans b12)))
    have yB11_12_0 := KB11_12.out.cell (i := 0) rfl
    have yB11_12_1 := KB11_12.out.cell (i := 1) rfl
    have yB11_12_2 := KB11_12.out.cell (i := 2) rfl
    go_wp2_with fail
    (with_reducible refine (F1.rCmp ((p0.bel g0).bel ((((((((((((((((Bel.refl _).trans b1).trans b2).alloc (.cells #[.bool (dneg u1), .slice A2 (digs (dm u1)).length c2, .int .i64 (de u1)] 24)).trans b3).trans b4).alloc (.cells #[.bool (dneg u2), .slice A4 (digs (dm u2)).length c4, .int .i64 (de u2)] 24)).trans b5).trans b6).alloc (.cells #[.bool (dneg hh), .slice A6 (digs (dm hh)).length c6, .int .i64 (de hh)] 24)).trans b7).trans b8).trans b9).trans b10).trans b11).trans b12)) (n6.bel ((((((((Bel.refl _).alloc (.cells #[.bool (dneg hh), .slice A6 (digs (dm hh)).length c6, .int .i64 (de hh)] 24)).trans b7).trans b8).trans b9).trans b10).trans b11).trans b12)) (by omega) (by omega) (r := ch) HCH.out).mono ?_); rintro e w13 ⟨rfl, b13⟩
    clear yB3_12_0 yB3_12_1 yB3_12_2 yB11_12_0 yB11_12_1 yB11_12_2
    have KB3_13 := Ho.mk ((KB3_12.out.bel ((Bel.refl _).trans b13)))
    have yB3_13_0 := KB3_13.out.cell (i := 0) rfl
    have yB3_13_1 := KB3_13.out.cell (i := 1) rfl
    have yB3_13_2 := KB3_13.out.cell (i := 2) rfl
    have KB11_13 := Ho.mk ((KB11_12.out.bel ((Bel.refl _).trans b13)))
    have yB11_13_0 := KB11_13.out.cell (i := 0) rfl
    have yB11_13_1 := KB11_13.out.cell (i := 1) rfl
    have yB11_13_2 := KB11_13.out.cell (i := 2) rfl
    go_wp2_with fail
    (with_reducible refine (F1.rCmp ((p0.bel g0).bel (((((((((((((((((Bel.refl _).trans b1).trans b2).alloc (.cells #[.bool (dneg u1), .slice A2 (digs (dm u1)).length c2, .int .i64 (de u1)] 24)).trans b3).trans b4).alloc (.cells #[.bool (dneg u2), .slice A4 (digs (dm u2)).length c4, .int .i64 (de u2)] 24)).trans b5).trans b6).alloc (.cells #[.bool (dneg hh), .slice A6 (digs (dm hh)).length c6, .int .i64 (de hh)] 24)).trans b7).trans b8).trans b9).trans b10).trans b11).trans b12).trans b13)) (n6.bel (((((((((Bel.refl _).alloc (.cells #[.bool (dneg hh), .slice A6 (digs (dm hh)).length c6, .int .i64 (de hh)] 24)).trans b7).trans b8).trans b9).trans b10).trans b11).trans b12).trans b13)) (by omega) (by omega) (r := ch) HCH.out).mono ?_); rintro e w14 ⟨rfl, b14⟩
    clear yB3_13_0 yB3_13_1 yB3_13_2 yB11_13_0 yB11_13_1 yB11_13_2
    have KB3_14 := Ho.mk ((KB3_13.out.bel ((Bel.refl _).trans b14)))
    have yB3_14_0 := KB3_14.out.cell (i := 0) rfl
    have yB3_14_1 := KB3_14.out.cell (i := 1) rfl
    have yB3_14_2 := KB3_14.out.cell (i := 2) rfl
    have KB9_14 := Ho.mk ((KB9_10.out.bel (((((Bel.refl _).trans b11).trans b12).trans b13).trans b14)))
    have yB9_14_0 := KB9_14.out.cell (i := 0) rfl
    have yB9_14_1 := KB9_14.out.cell (i := 1) rfl
    have yB9_14_2 := KB9_14.out.cell (i := 2) rfl
    go_wp2_with fail
    (with_reducible refine (F1.rCmp ((p0.bel g0).bel ((((((((((((((((((Bel.refl _).trans b1).trans b2).alloc (.cells #[.bool (dneg u1), .slice A2 (digs (dm u1)).length c2, .int .i64 (de u1)] 24)).trans b3).trans b4).alloc (.cells #[.bool (dneg u2), .slice A4 (digs (dm u2)).length c4, .int .i64 (de u2)] 24)).trans b5).trans b6).alloc (.cells #[.bool (dneg hh), .slice A6 (digs (dm hh)).length c6, .int .i64 (de hh)] 24)).trans b7).trans b8).trans b9).trans b10).trans b11).trans b12).trans b13).trans b14)) (n4.bel (((((((((((((Bel.refl _).alloc (.cells #[.bool (dneg u2), .slice A4 (digs (dm u2)).length c4, .int .i64 (de u2)] 24)).trans b5).trans b6).alloc (.cells #[.bool (dneg hh), .slice A6 (digs (dm hh)).length c6, .int .i64 (de hh)] 24)).trans b7).trans b8).trans b9).trans b10).trans b11).trans b12).trans b13).trans b14)) (by omega) (by omega) (r := ct) HCT.out).mono ?_); rintro e w15 ⟨rfl, b15⟩
    clear yB3_14_0 yB3_14_1 yB3_14_2 yB9_14_0 yB9_14_1 yB9_14_2
    all_goals
      have HE := Ho.mk (g0.trans (((((((((((((((((((Bel.refl _).trans b1).trans b2).alloc (.cells #[.bool (dneg u1), .slice A2 (digs (dm u1)).length c2, .int .i64 (de u1)] 24)).trans b3).trans b4).alloc (.cells #[.bool (dneg u2), .slice A4 (digs (dm u2)).length c4, .int .i64 (de u2)] 24)).trans b5).trans b6).alloc (.cells #[.bool (dneg hh), .slice A6 (digs (dm hh)).length c6, .int .i64 (de hh)] 24)).trans b7).trans b8).trans b9).trans b10).trans b11).trans b12).trans b13).trans b14).trans b15))
      go_wp2
      go_ret
      exact ⟨rfl, HE.out⟩
set_option maxRecDepth 100000 in
set_option maxHeartbeats 8000000 in
theorem next_p7 {A0 : Option Addr} {c0 : Nat} {v0 : Int} {f g : Nat} {u1 u2 : Int} {k1 k2 : Bool} (w : World) (T : Tab w) (p0 : Dv w A0 c0 v0 3000 3480) (hf : f < 2 * sgnW) (hg : g < 2 * sgnW) (hx : nxw f = g)
    (hv1 : u1 = if frung f < infR then fv f else 0) (hk1 : k1 = decide (frung f < infR)) (hv2 : u2 = if frung g < infR then fv g else 0) (hk2 : k2 = decide (frung g < infR)) (hgd : H1.goodB (dneg v0) (digs (dm v0)) (de v0) = true) (e1 : k1 = true) (e2 : k2 = true) (q0 : (FloatKind.f64.format.order g f == some .gt) = true) (nh : Nat) (hnh : nw (shiftD (u1 + u2) (-1)) = nh)
    (hq : (FloatKind.f64.format.order nh f != some .eq) = false ∨ ((FloatKind.f64.format.order nh f != some .eq) = true ∧ (FloatKind.f64.format.order nh g != some .eq) = false))
    (nd : Nat) (cu ct ch : Int) (hcu : cmpI v0 u1 = cu) (hct : cmpI v0 u2 = ct) (hch : cmpI v0 (shiftD (u1 + u2) (-1)) = ch) (hnd : nw v0 = nd) (dcu0 : decide (cu < 0) = false) (dcu1 : decide (0 < cu) = true) (dcu2 : decide (cu ≤ 0) = false) (dcu3 : decide (0 ≤ cu) = true) (dct0 : decide (ct < 0) = false) (dct1 : decide (0 < ct) = true) (dct2 : decide (ct ≤ 0) = false) (dct3 : decide (0 ≤ ct) = true) (dch0 : decide (ch < 0) = false) (dch1 : decide (0 < ch) = true) (dch2 : decide (ch ≤ 0) = false) (dch3 : decide (0 ≤ ch) = true) :
    Calls Tryd.prog 13 #[.float .f64 f, .agg #[.bool (dneg v0), .slice A0 (digs (dm v0)).length c0, .int .i64 (de v0)]] w (Tells w (.bool true)) := by
  have TT := Ho.mk T
  have HF := Ho.mk hf
  have HX := Ho.mk hx
  have HO1 := Ho.mk (fun (W : World) (gw : Bel w W) => ofD (b := f) hf W (T.bel gw) (v := u1) (ok := k1) hv1 hk1)
  have HO2 := Ho.mk (fun (W : World) (gw : Bel w W) => ofD (b := g) hg W (T.bel gw) (v := u2) (ok := k2) hv2 hk2)
  have HG := Ho.mk (fun (W : World) (gw : Bel w W) => goodT (dneg v0) A0 c0 (digs (dm v0)) (de v0) W (p0.rd.bel gw) hgd)
  subst e1 e2
  obtain ⟨hh, hhh⟩ : ∃ h, shiftD (u1 + u2) (-1) = h := ⟨_, rfl⟩
  have HHH := Ho.mk hhh
  rw [hhh] at hnh
  have HNH := Ho.mk hnh
  rw [hhh] at hch
  have HCU := Ho.mk hcu
  have HCT := Ho.mk hct
  have HCH := Ho.mk hch
  have HND := Ho.mk hnd
  clear hcu hct hch hnd
  clear T hf hg hx hv1 hk1 hv2 hk2 hgd hhh hnh
  rcases hq with q1 | ⟨q1, q2⟩
  all_goals
    go_enter Tryd.func13, Tryd.ntmps13
    go_wp2_with fail
    have KB0 := Ho.mk (Blk.new w [.bool (dneg v0), .slice A0 (digs (dm v0)).length c0, .int .i64 (de v0)] 24)
    have g0 := (Bel.refl w).alloc (.cells #[.bool (dneg v0), .slice A0 (digs (dm v0)).length c0, .int .i64 (de v0)] 24)
    have hZ : (w.alloc (.cells #[.bool (dneg v0), .slice A0 (digs (dm v0)).length c0, .int .i64 (de v0)] 24)) = (w.alloc (.cells #[.bool (dneg v0), .slice A0 (digs (dm v0)).length c0, .int .i64 (de v0)] 24)) := rfl
    generalize (w.alloc (.cells #[.bool (dneg v0), .slice A0 (digs (dm v0)).length c0, .int .i64 (de v0)] 24)) = w0 at *
    clear hZ
    (with_reducible refine (headT _ (TT.out.bel (g0.trans (Bel.refl _)))).mono ?_); rintro e w1 ⟨rfl, b1⟩
    go_wp2_with fail
    (with_reducible refine (HO1.out _ (g0.trans ((Bel.refl _).trans b1))).mono ?_); rintro e w2 ⟨A2, c2, rfl, n2, b2⟩
    have KB6 := Ho.mk (Blk.new w2 [.bool (dneg u1), .slice A2 (digs (dm u1)).length c2, .int .i64 (de u1)] 24)
    go_wp2_with fail
    (with_reducible refine (nextT HF.out _ HX.out).mono ?_); rintro e w3 ⟨rfl, b3⟩
    go_wp2_with fail
    (with_reducible refine (HO2.out _ (g0.trans (((((Bel.refl _).trans b1).trans b2).alloc (.cells #[.bool (dneg u1), .slice A2 (digs (dm u1)).length c2, .int .i64 (de u1)] 24)).trans b3))).mono ?_); rintro e w4 ⟨A4, c4, rfl, n4, b4⟩
    have KB9 := Ho.mk (Blk.new w4 [.bool (dneg u2), .slice A4 (digs (dm u2)).length c4, .int .i64 (de u2)] 24)
    have KB6_4x := Ho.mk ((KB6.out.bel ((((Bel.refl _).trans b3).trans b4).alloc (.cells #[.bool (dneg u2), .slice A4 (digs (dm u2)).length c4, .int .i64 (de u2)] 24))))
    have yB6_4x_0 := KB6_4x.out.cell (i := 0) rfl
    have yB6_4x_1 := KB6_4x.out.cell (i := 1) rfl
    have yB6_4x_2 := KB6_4x.out.cell (i := 2) rfl
    have KB9_4x := Ho.mk (KB9.out)
    have yB9_4x_0 := KB9_4x.out.cell (i := 0) rfl
    have yB9_4x_1 := KB9_4x.out.cell (i := 1) rfl
    have yB9_4x_2 := KB9_4x.out.cell (i := 2) rfl
    go_wp2_with fail
    (with_reducible refine (F1.rAdd (n2.bel (((((Bel.refl _).alloc (.cells #[.bool (dneg u1), .slice A2 (digs (dm u1)).length c2, .int .i64 (de u1)] 24)).trans b3).trans b4).alloc (.cells #[.bool (dneg u2), .slice A4 (digs (dm u2)).length c4, .int .i64 (de u2)] 24))) (n4.bel ((Bel.refl _).alloc (.cells #[.bool (dneg u2), .slice A4 (digs (dm u2)).length c4, .int .i64 (de u2)] 24))) (by omega) (by omega)).mono ?_); rintro e w5 ⟨A5, c5, rfl, n5, b5⟩
    clear yB6_4x_0 yB6_4x_1 yB6_4x_2 yB9_4x_0 yB9_4x_1 yB9_4x_2
    go_wp2_with fail
    (with_reducible refine (H9.rShiftE n5 HHH.out (by omega) (by omega)).mono ?_); rintro e w6 ⟨A6, c6, rfl, n6, b6⟩
    have KB11 := Ho.mk (Blk.new w6 [.bool (dneg hh), .slice A6 (digs (dm hh)).length c6, .int .i64 (de hh)] 24)
    have KB11_6x := Ho.mk (KB11.out)
    have yB11_6x_0 := KB11_6x.out.cell (i := 0) rfl
    have yB11_6x_1 := KB11_6x.out.cell (i := 1) rfl
    have yB11_6x_2 := KB11_6x.out.cell (i := 2) rfl
    go_wp2_with fail
    (with_reducible refine (nearD (n6.bel ((Bel.refl _).alloc (.cells #[.bool (dneg hh), .slice A6 (digs (dm hh)).length c6, .int .i64 (de hh)] 24))) (by omega) (by omega) (r := nh) HNH.out).mono ?_); rintro e w7 ⟨rfl, b7⟩
    clear yB11_6x_0 yB11_6x_1 yB11_6x_2
    have KB3_7 := Ho.mk ((KB0.out.bel (((((((((((Bel.refl _).trans b1).trans b2).alloc (.cells #[.bool (dneg u1), .slice A2 (digs (dm u1)).length c2, .int .i64 (de u1)] 24)).trans b3).trans b4).alloc (.cells #[.bool (dneg u2), .slice A4 (digs (dm u2)).length c4, .int .i64 (de u2)] 24)).trans b5).trans b6).alloc (.cells #[.bool (dneg hh), .slice A6 (digs (dm hh)).length c6, .int .i64 (de hh)] 24)).trans b7)))
    have yB3_7_0 := KB3_7.out.cell (i := 0) rfl
    have yB3_7_1 := KB3_7.out.cell (i := 1) rfl
    have yB3_7_2 := KB3_7.out.cell (i := 2) rfl
    go_wp2_with fail
    (with_reducible refine ((HG.out _ (g0.trans (((((((((((Bel.refl _).trans b1).trans b2).alloc (.cells #[.bool (dneg u1), .slice A2 (digs (dm u1)).length c2, .int .i64 (de u1)] 24)).trans b3).trans b4).alloc (.cells #[.bool (dneg u2), .slice A4 (digs (dm u2)).length c4, .int .i64 (de u2)] 24)).trans b5).trans b6).alloc (.cells #[.bool (dneg hh), .slice A6 (digs (dm hh)).length c6, .int .i64 (de hh)] 24)).trans b7)))).mono ?_); rintro e w8 ⟨rfl, b8⟩
    clear yB3_7_0 yB3_7_1 yB3_7_2
    have KB3_8 := Ho.mk ((KB3_7.out.bel ((Bel.refl _).trans b8)))
    have yB3_8_0 := KB3_8.out.cell (i := 0) rfl
    have yB3_8_1 := KB3_8.out.cell (i := 1) rfl
    have yB3_8_2 := KB3_8.out.cell (i := 2) rfl
    go_wp2_with fail
    (with_reducible refine (nearD ((p0.bel g0).bel ((((((((((((Bel.refl _).trans b1).trans b2).alloc (.cells #[.bool (dneg u1), .slice A2 (digs (dm u1)).length c2, .int .i64 (de u1)] 24)).trans b3).trans b4).alloc (.cells #[.bool (dneg u2), .slice A4 (digs (dm u2)).length c4, .int .i64 (de u2)] 24)).trans b5).trans b6).alloc (.cells #[.bool (dneg hh), .slice A6 (digs (dm hh)).length c6, .int .i64 (de hh)] 24)).trans b7).trans b8)) (by omega) (by omega) (r := nd) HND.out).mono ?_); rintro e w9 ⟨rfl, b9⟩
    clear yB3_8_0 yB3_8_1 yB3_8_2
    have KB3_9 := Ho.mk ((KB3_8.out.bel ((Bel.refl _).trans b9)))
    have yB3_9_0 := KB3_9.out.cell (i := 0) rfl
    have yB3_9_1 := KB3_9.out.cell (i := 1) rfl
    have yB3_9_2 := KB3_9.out.cell (i := 2) rfl
    have KB6_9 := Ho.mk ((KB6_4x.out.bel (((((((Bel.refl _).trans b5).trans b6).alloc (.cells #[.bool (dneg hh), .slice A6 (digs (dm hh)).length c6, .int .i64 (de hh)] 24)).trans b7).trans b8).trans b9)))
    have yB6_9_0 := KB6_9.out.cell (i := 0) rfl
    have yB6_9_1 := KB6_9.out.cell (i := 1) rfl
    have yB6_9_2 := KB6_9.out.cell (i := 2) rfl
    go_wp2_with fail
    (with_reducible refine (F1.rCmp ((p0.bel g0).bel (((((((((((((Bel.refl _).trans b1).trans b2).alloc (.cells #[.bool (dneg u1), .slice A2 (digs (dm u1)).length c2, .int .i64 (de u1)] 24)).trans b3).trans b4).alloc (.cells #[.bool (dneg u2), .slice A4 (digs (dm u2)).length c4, .int .i64 (de u2)] 24)).trans b5).trans b6).alloc (.cells #[.bool (dneg hh), .slice A6 (digs (dm hh)).length c6, .int .i64 (de hh)] 24)).trans b7).trans b8).trans b9)) (n2.bel (((((((((((Bel.refl _).alloc (.cells #[.bool (dneg u1), .slice A2 (digs (dm u1)).length c2, .int .i64 (de u1)] 24)).trans b3).trans b4).alloc (.cells #[.bool (dneg u2), .slice A4 (digs (dm u2)).length c4, .int .i64 (de u2)] 24)).trans b5).trans b6).alloc (.cells #[.bool (dneg hh), .slice A6 (digs (dm hh)).length c6, .int .i64 (de hh)] 24)).trans b7).trans b8).trans b9)) (by omega) (by omega) (r := cu) HCU.out).mono ?_); rintro e w10 ⟨rfl, b10⟩
    clear yB3_9_0 yB3_9_1 yB3_9_2 yB6_9_0 yB6_9_1 yB6_9_2
    have KB3_10 := Ho.mk ((KB3_9.out.bel ((Bel.refl _).trans b10)))
    have yB3_10_0 := KB3_10.out.cell (i := 0) rfl
    have yB3_10_1 := KB3_10.out.cell (i := 1) rfl
    have yB3_10_2 := KB3_10.out.cell (i := 2) rfl
    have KB9_10 := Ho.mk ((KB9_4x.out.bel ((((((((Bel.refl _).trans b5).trans b6).alloc (.cells #[.bool (dneg hh), .slice A6 (digs (dm hh)).length c6, .int .i64 (de hh)] 24)).trans b7).trans b8).trans b9).trans b10)))
    have yB9_10_0 := KB9_10.out.cell (i := 0) rfl
    have yB9_10_1 := KB9_10.out.cell (i := 1) rfl
    have yB9_10_2 := KB9_10.out.cell (i := 2) rfl
    go_wp2_with fail
    (with_reducible refine (F1.rCmp ((p0.bel g0).bel ((((((((((((((Bel.refl _).trans b1).trans b2).alloc (.cells #[.bool (dneg u1), .slice A2 (digs (dm u1)).length c2, .int .i64 (de u1)] 24)).trans b3).trans b4).alloc (.cells #[.bool (dneg u2), .slice A4 (digs (dm u2)).length c4, .int .i64 (de u2)] 24)).trans b5).trans b6).alloc (.cells #[.bool (dneg hh), .slice A6 (digs (dm hh)).length c6, .int .i64 (de hh)] 24)).trans b7).trans b8).trans b9).trans b10)) (n4.bel (((((((((Bel.refl _).alloc (.cells #[.bool (dneg u2), .slice A4 (digs (dm u2)).length c4, .int .i64 (de u2)] 24)).trans b5).trans b6).alloc (.cells #[.bool (dneg hh), .slice A6 (digs (dm hh)).length c6, .int .i64 (de hh)] 24)).trans b7).trans b8).trans b9).trans b10)) (by omega) (by omega) (r := ct) HCT.out).mono ?_); rintro e w11 ⟨rfl, b11⟩
    clear yB3_10_0 yB3_10_1 yB3_10_2 yB9_10_0 yB9_10_1 yB9_10_2
    have KB3_11 := Ho.mk ((KB3_10.out.bel ((Bel.refl _).trans b11)))
    have yB3_11_0 := KB3_11.out.cell (i := 0) rfl
    have yB3_11_1 := KB3_11.out.cell (i := 1) rfl
    have yB3_11_2 := KB3_11.out.cell (i := 2) rfl
    have KB6_11 := Ho.mk ((KB6_9.out.bel (((Bel.refl _).trans b10).trans b11)))
    have yB6_11_0 := KB6_11.out.cell (i := 0) rfl
    have yB6_11_1 := KB6_11.out.cell (i := 1) rfl
    have yB6_11_2 := KB6_11.out.cell (i := 2) rfl
    go_wp2_with fail
    (with_reducible refine (F1.rCmp ((p0.bel g0).bel (((((((((((((((Bel.refl _).trans b1).trans b2).alloc (.cells #[.bool (dneg u1), .slice A2 (digs (dm u1)).length c2, .int .i64 (de u1)] 24)).trans b3).trans b4).alloc (.cells #[.bool (dneg u2), .slice A4 (digs (dm u2)).length c4, .int .i64 (de u2)] 24)).trans b5).trans b6).alloc (.cells #[.bool (dneg hh), .slice A6 (digs (dm hh)).length c6, .int .i64 (de hh)] 24)).trans b7).trans b8).trans b9).trans b10).trans b11)) (n2.bel (((((((((((((Bel.refl _).alloc (.cells #[.bool (dneg u1), .slice A2 (digs (dm u1)).length c2, .int .i64 (de u1)] 24)).trans b3).trans b4).alloc (.cells #[.bool (dneg u2), .slice A4 (digs (dm u2)).length c4, .int .i64 (de u2)] 24)).trans b5).trans b6).alloc (.cells #[.bool (dneg hh), .slice A6 (digs (dm hh)).length c6, .int .i64 (de hh)] 24)).trans b7).trans b8).trans b9).trans b10).trans b11)) (by omega) (by omega) (r := cu) HCU.out).mono ?_); rintro e w12 ⟨rfl, b12⟩
    clear yB3_11_0 yB3_11_1 yB3_11_2 yB6_11_0 yB6_11_1 yB6_11_2
    have KB3_12 := Ho.mk ((KB3_11.out.bel ((Bel.refl _).trans b12)))
    have yB3_12_0 := KB3_12.out.cell (i := 0) rfl
    have yB3_12_1 := KB3_12.out.cell (i := 1) rfl
    have yB3_12_2 := KB3_12.out.cell (i := 2) rfl
    have KB11_12 := Ho.mk ((KB11_6x.out.bel (((((((Bel.refl _).trans b7).trans b8).trans b9).trans b10).trans b11).trans b12)))
    have yB11_12_0 := KB11_12.out.cell (i := 0) rfl
    have yB11_12_1 := KB11_12.out.cell (i := 1) rfl
    have yB11_12_2 := KB11_12.out.cell (i := 2) rfl
    go_wp2_with fail
    (with_reducible refine (F1.rCmp ((p0.bel g0).bel ((((((((((((((((Bel.refl _).trans b1).trans b2).alloc (.cells #[.bool (dneg u1), .slice A2 (digs (dm u1)).length c2, .int .i64 (de u1)] 24)).trans b3).trans b4).alloc (.cells #[.bool (dneg u2), .slice A4 (digs (dm u2)).length c4, .int .i64 (de u2)] 24)).trans b5).trans b6).alloc (.cells #[.bool (dneg hh), .slice A6 (digs (dm hh)).length c6, .int .i64 (de hh)] 24)).trans b7).trans b8).trans b9).trans b10).trans b11).trans b12)) (n6.bel ((((((((Bel.refl _).alloc (.cells #[.bool (dneg hh), .slice A6 (digs (dm hh)).length c6, .int .i64 (de hh)] 24)).trans b7).trans b8).trans b9).trans b10).trans b11).trans b12)) (by omega) (by omega) (r := ch) HCH.out).mono ?_); rintro e w13 ⟨rfl, b13⟩
    clear yB3_12_0 yB3_12_1 yB3_12_2 yB11_12_0 yB11_12_1 yB11_12_2
    have KB3_13 := Ho.mk ((KB3_12.out.bel ((Bel.refl _).trans b13)))
    have yB3_13_0 := KB3_13.out.cell (i := 0) rfl
    have yB3_13_1 := KB3_13.out.cell (i := 1) rfl
    have yB3_13_2 := KB3_13.out.cell (i := 2) rfl
    have KB11_13 := Ho.mk ((KB11_12.out.bel ((Bel.refl _).trans b13)))
    have yB11_13_0 := KB11_13.out.cell (i := 0) rfl
    have yB11_13_1 := KB11_13.out.cell (i := 1) rfl
    have yB11_13_2 := KB11_13.out.cell (i := 2) rfl
    go_wp2_with fail
    (with_reducible refine (F1.rCmp ((p0.bel g0).bel (((((((((((((((((Bel.refl _).trans b1).trans b2).alloc (.cells #[.bool (dneg u1), .slice A2 (digs (dm u1)).length c2, .int .i64 (de u1)] 24)).trans b3).trans b4).alloc (.cells #[.bool (dneg u2), .slice A4 (digs (dm u2)).length c4, .int .i64 (de u2)] 24)).trans b5).trans b6).alloc (.cells #[.bool (dneg hh), .slice A6 (digs (dm hh)).length c6, .int .i64 (de hh)] 24)).trans b7).trans b8).trans b9).trans b10).trans b11).trans b12).trans b13)) (n6.bel (((((((((Bel.refl _).alloc (.cells #[.bool (dneg hh), .slice A6 (digs (dm hh)).length c6, .int .i64 (de hh)] 24)).trans b7).trans b8).trans b9).trans b10).trans b11).trans b12).trans b13)) (by omega) (by omega) (r := ch) HCH.out).mono ?_); rintro e w14 ⟨rfl, b14⟩
    clear yB3_13_0 yB3_13_1 yB3_13_2 yB11_13_0 yB11_13_1 yB11_13_2
    have KB3_14 := Ho.mk ((KB3_13.out.bel ((Bel.refl _).trans b14)))
    have yB3_14_0 := KB3_14.out.cell (i := 0) rfl
    have yB3_14_1 := KB3_14.out.cell (i := 1) rfl
    have yB3_14_2 := KB3_14.out.cell (i := 2) rfl
    have KB9_14 := Ho.mk ((KB9_10.out.bel (((((Bel.refl _).trans b11).trans b12).trans b13).trans b14)))
    have yB9_14_0 := KB9_14.out.cell (i := 0) rfl
    have yB9_14_1 := KB9_14.out.cell (i := 1) rfl
    have yB9_14_2 := KB9_14.out.cell (i := 2) rfl
    go_wp2_with fail
    (with_reducible refine (F1.rCmp ((p0.bel g0).bel ((((((((((((((((((Bel.refl _).trans b1).trans b2).alloc (.cells #[.bool (dneg u1), .slice A2 (digs (dm u1)).length c2, .int .i64 (de u1)] 24)).trans b3).trans b4).alloc (.cells #[.bool (dneg u2), .slice A4 (digs (dm u2)).length c4, .int .i64 (de u2)] 24)).trans b5).trans b6).alloc (.cells #[.bool (dneg hh), .slice A6 (digs (dm hh)).length c6, .int .i64 (de hh)] 24)).trans b7).trans b8).trans b9).trans b10).trans b11).trans b12).trans b13).trans b14)) (n4.bel (((((((((((((Bel.refl _).alloc (.cells #[.bool (dneg u2), .slice A4 (digs (dm u2)).length c4, .int .i64 (de u2)] 24)).trans b5).trans b6).alloc (.cells #[.bool (dneg hh), .slice A6 (digs (dm hh)).length c6, .int .i64 (de hh)] 24)).trans b7).trans b8).trans b9).trans b10).trans b11).trans b12).trans b13).trans b14)) (by omega) (by omega) (r := ct) HCT.out).mono ?_); rintro e w15 ⟨rfl, b15⟩
    clear yB3_14_0 yB3_14_1 yB3_14_2 yB9_14_0 yB9_14_1 yB9_14_2
    all_goals
      have HE := Ho.mk (g0.trans (((((((((((((((((((Bel.refl _).trans b1).trans b2).alloc (.cells #[.bool (dneg u1), .slice A2 (digs (dm u1)).length c2, .int .i64 (de u1)] 24)).trans b3).trans b4).alloc (.cells #[.bool (dneg u2), .slice A4 (digs (dm u2)).length c4, .int .i64 (de u2)] 24)).trans b5).trans b6).alloc (.cells #[.bool (dneg hh), .slice A6 (digs (dm hh)).length c6, .int .i64 (de hh)] 24)).trans b7).trans b8).trans b9).trans b10).trans b11).trans b12).trans b13).trans b14).trans b15))
      go_wp2
      go_ret
      exact ⟨rfl, HE.out⟩
theorem V_of' {b r : Nat} {n : Bool} (h1 : frung b = r) (h2 : fneg b = n) : V b = sv n (mag r) := by unfold V; rw [h1, h2]
theorem eqB {a b : Nat} (ha : a < 2 * sgnW) (hb : b < 2 * sgnW) (fa : frung a ≤ infR) (fb : frung b ≤ infR) (h : V a = V b) : (FloatKind.f64.format.order a b == some .eq) = true ∧ (FloatKind.f64.format.order a b != some .eq) = false := by
  rw [ord ha hb fa fb, c_eq h]; exact ⟨rfl, rfl⟩
theorem neB {a b : Nat} (ha : a < 2 * sgnW) (hb : b < 2 * sgnW) (fa : frung a ≤ infR) (fb : frung b ≤ infR) (h : V a ≠ V b) : (FloatKind.f64.format.order a b == some .eq) = false ∧ (FloatKind.f64.format.order a b != some .eq) = true := by
  rw [ord ha hb fa fb]
  rcases Int.lt_or_gt_of_ne h with q | q
  · rw [c_lt q]; exact ⟨rfl, rfl⟩
  · rw [c_gt q]; exact ⟨rfl, rfl⟩
theorem cmp_is {u v r : Int} (h : (r = -1 ∧ u < v) ∨ (r = 0 ∧ u = v) ∨ (r = 1 ∧ v < u)) : cmpI u v = r := by
  rcases h with ⟨rfl, h⟩ | ⟨rfl, h⟩ | ⟨rfl, h⟩
  · exact cmpI_lt h
  · exact cmpI_eq h
  · exact cmpI_gt h
theorem max_words : frung 9218868437227405311 = infR - 1 ∧ fneg 9218868437227405311 = false ∧ frung 18442240474082181119 = infR - 1 ∧ fneg 18442240474082181119 = true ∧ (9218868437227405311 : Nat) < 2 * sgnW ∧ (18442240474082181119 : Nat) < 2 * sgnW := by decide
theorem half_eq {s : Int} (h : -(K : Int) ≤ de s + -1) : shiftD s (-1) * 2 = s := by
  have : shiftD s (-1) * 2 ^ 1 = s * 2 ^ (-1 + (1 : Nat) : Int).toNat := shiftD_eq s (-1) 1 h (by omega)
  simpa using this
set_option maxHeartbeats 2000000 in
theorem next_door (f : Nat) (n0 : Bool) (A0 : Option Addr) (c0 : Nat) (l0 : List Int) (e0 : Int) (w : World) (T : Tab w) (h0 : Rd w A0 l0) (k0 : l0.length ≤ c0) (hf : (Lit.float .f64 f).wf = true) :
    Calls Tryd.prog 13 #[.float .f64 f, .agg #[.bool n0, .slice A0 l0.length c0, .int .i64 e0]] w (Tells w (.bool true)) := by
  have hf := wf_lt hf
  have mp := mag_pos
  obtain ⟨mx1, mx2, mn1, mn2, mxl, mnl⟩ := max_words
  have hg2 : nxw f < 2 * sgnW := by
    unfold nxw
    split
    · decide
    · rename_i h
      by_cases hp : fneg f = false ∨ frung f = 0
      · rcases Nat.lt_or_eq_of_le (Nat.le_of_not_lt h) with q | q
        · rw [nx_pos hf hp q]; have : infR < 2 * sgnW := by decide
          omega
        · rcases hp with hp | hp
          · unfold nx; rw [if_pos (by unfold V sv; rw [hp, q]; rfl)]; exact hf
          · rw [hp] at q; exact absurd q (by decide)
      · have h0 : frung f ≠ 0 := fun c => hp (.inr c)
        have hn : fneg f = true := by
          cases q : fneg f
          · exact absurd (.inl q) hp
          · rfl
        rw [nx_neg hf hn h0]
        apply word_lt2
        have := (word_split hf).2
        omega
  by_cases hn : infR < frung f
  · have e : nxw f = 9221120237041090561 := by unfold nxw; rw [if_pos hn]
    exact next_nan n0 A0 c0 l0 e0 w T h0 hf hg2 rfl rfl rfl rfl rfl (decide_eq_false (by omega)) (by rw [ord_no hf hf (.inl hn)]; rfl) (by rw [e, ord_no (by decide) (by decide) (.inl (by decide))]; rfl)
  have hle : frung f ≤ infR := by omega
  have e : nxw f = nx f := by unfold nxw; rw [if_neg hn]
  have ff := eqB hf hf hle hle rfl
  have oz := ord hf (show 0 < 2 * sgnW by decide) hle (by decide)
  rw [V_0] at oz
  by_cases hi : frung f = infR
  · cases hs : fneg f with
    | false =>
      have hV : V f = (mag infR : Int) := by unfold V sv; rw [hs, hi]; rfl
      have e2 : nx f = f := by unfold nx; rw [if_pos hV]
      exact next_pinf n0 A0 c0 l0 e0 w T h0 hf hg2 rfl rfl rfl rfl rfl (decide_eq_false (by omega)) ff.2 (by rw [oz, c_gt (by omega)]; rfl) (by rw [e, e2]; exact ff.1)
    | true =>
      have hV : V f = -(mag infR : Int) := by unfold V sv; rw [hs, hi]; rfl
      have e2 := nx_neg hf hs (by rw [hi]; decide)
      rw [hi] at e2
      have e3 : nx f = 18442240474082181119 := by rw [e2, word_eq, if_pos rfl]; rfl
      exact next_minf n0 A0 c0 l0 e0 w T h0 hf hg2 rfl rfl rfl rfl rfl (decide_eq_false (by omega)) ff.2 (by rw [oz, c_lt (by omega)]; rfl) (by rw [oz, c_lt (by omega)]; rfl) (by rw [e, e3]; exact (eqB mnl mnl (by rw [mn1]; decide) (by rw [mn1]; decide) rfl).1)
  have hlt : frung f < infR := by omega
  have G := gap hf (.inl hlt)
  have hgle : frung (nx f) ≤ infR := by
    by_cases hp : fneg f = false ∨ frung f = 0
    · rw [nx_pos hf hp hlt]; unfold frung; rw [Nat.mod_eq_of_lt (by have : infR < sgnW := infR_lt
                                                                    have : f % sgnW < infR := hlt
                                                                    omega)]; exact hlt
    · have h0 : frung f ≠ 0 := fun c => hp (.inr c)
      have hn : fneg f = true := by
        cases q : fneg f
        · exact absurd (.inl q) hp
        · rfl
      rw [nx_neg hf hn h0, (word_neg _ (by have := (word_split hf).2; omega)).2]; omega
  rw [e] at hg2
  have hgt : (FloatKind.f64.format.order (nx f) f == some .gt) = true := by rw [ord hg2 hf hgle hle, c_gt G.lt]; rfl
  by_cases hgi : frung (nx f) = infR
  · have hV : V f = V 9218868437227405311 := by
      have hv2 : V (nx f) = (mag infR : Int) ∨ V (nx f) = -(mag infR : Int) := by
        unfold V sv; rw [hgi]
        cases fneg (nx f)
        · exact .inl rfl
        · exact .inr rfl
      have hm := V_fin_lt hlt
      have := G.lt
      have hv2 : V (nx f) = (mag infR : Int) := by rcases hv2 with q | q; exact q; omega
      obtain ⟨_, r, n, hd⟩ := G
      rcases hd with ⟨_, a1, a2, a3⟩ | ⟨_, a1, a2, a3⟩
      · have : r + 1 = infR := mag_inj (by rw [hv2] at a2; exact (Int.ofNat.inj a2).symm)
        rw [a1, V_of' mx1 mx2, ← this]; unfold sv; rw [if_neg (by decide)]; rfl
      · rw [hv2] at a2; omega
    exact next_max n0 A0 c0 l0 e0 w T h0 hf hg2 e rfl rfl rfl rfl (decide_eq_true hlt) (decide_eq_false (by omega)) (eqB hf mxl hle (by rw [mx1]; decide) hV).1 hgt
  have hglt : frung (nx f) < infR := by omega
  obtain ⟨u1, hu1⟩ : ∃ u, fv f = u := ⟨_, rfl⟩
  obtain ⟨u2, hu2⟩ : ∃ u, fv (nx f) = u := ⟨_, rfl⟩
  have hu : u1 < u2 := by rw [← hu1, ← hu2]; exact fv_lt.1 G.lt
  have ws : Wd (u1 + u2) (1074 + 1074) (1024 + 1024 + 1) := by rw [← hu1, ← hu2]; exact (wd_fv hlt).add (wd_fv hglt) (by unfold K; omega)
  have hh := half_eq (s := u1 + u2) (by have := ws.e_ge; unfold K; omega)
  have e1 : (if frung f < infR then fv f else 0) = u1 := by rw [if_pos hlt, hu1]
  have e2 : (if frung (nx f) < infR then fv (nx f) else 0) = u2 := by rw [if_pos hglt, hu2]
  have GN := fun (v : Int) (a : u1 ≤ v) (b : v ≤ u2) => gap_near G (v := v) (by rw [hu1]; exact a) (by rw [hu2]; exact b)
  rw [hu1, hu2] at GN
  have nl := fun v => (nw_facts v).1
  have nf : ∀ v, frung (nw v) ≤ infR := fun v => by rw [(nw_facts v).2.1]; exact nr_le _
  have hVne : V f ≠ V (nx f) := Int.ne_of_lt G.lt
  generalize hhd : shiftD (u1 + u2) (-1) = hd at hh
  have hq : (FloatKind.f64.format.order (nw hd) f != some .eq) = false ∨ ((FloatKind.f64.format.order (nw hd) f != some .eq) = true ∧ (FloatKind.f64.format.order (nw hd) (nx f) != some .eq) = false) := by
    rcases (GN hd (by omega) (by omega)).1 with q | q
    · exact .inl (eqB (nl _) hf (nf _) hle q).2
    · exact .inr ⟨(neB (nl _) hf (nf _) hle (by rw [q]; exact fun c => hVne c.symm)).2, (eqB (nl _) hg2 (nf _) hgle q).2⟩
  rw [← hhd] at hq
  cases hgd : H1.goodB n0 l0 e0 with
  | false => exact next_off n0 A0 c0 l0 e0 w T h0 hf hg2 e e1.symm (decide_eq_true hlt).symm e2.symm (decide_eq_true hglt).symm hgd rfl rfl hgt _ rfl hq
  | true =>
    obtain ⟨v0, rfl, rfl, rfl, _, wd⟩ := H1.good_num hgd
    have p0 : Dv w A0 c0 v0 3000 3480 := ⟨k0, h0, wd⟩
    by_cases z1 : v0 < u1
    · exact next_p1 w T p0 hf hg2 e e1.symm (decide_eq_true hlt).symm e2.symm (decide_eq_true hglt).symm hgd rfl rfl hgt _ rfl hq _ (-1) (-1) (-1) (cmp_is (by omega)) (cmp_is (by omega)) (cmp_is (by rw [hhd]; omega)) rfl (by decide) (by decide) (by decide) (by decide) (by decide) (by decide) (by decide) (by decide)
    by_cases z7 : u2 < v0
    · exact next_p7 w T p0 hf hg2 e e1.symm (decide_eq_true hlt).symm e2.symm (decide_eq_true hglt).symm hgd rfl rfl hgt _ rfl hq _ 1 1 1 (cmp_is (by omega)) (cmp_is (by omega)) (cmp_is (by rw [hhd]; omega)) rfl (by decide) (by decide) (by decide) (by decide) (by decide) (by decide) (by decide) (by decide) (by decide) (by decide) (by decide) (by decide)
    obtain ⟨g1, g2, g3⟩ := GN v0 (by omega) (by omega)
    by_cases z2 : v0 < hd
    · have xf := (eqB (nl v0) hf (nf v0) hle (g2 (by omega))).1
      by_cases z0 : v0 = u1
      · exact next_p2 w T p0 hf hg2 e e1.symm (decide_eq_true hlt).symm e2.symm (decide_eq_true hglt).symm hgd rfl rfl hgt _ rfl hq _ 0 (-1) (-1) (cmp_is (by omega)) (cmp_is (by omega)) (cmp_is (by rw [hhd]; omega)) rfl (by decide) (by decide) (by decide) (by decide) (by decide) (by decide) (by decide) (by decide) (by decide) (by decide) (by decide) (by decide) xf
      · exact next_p3 w T p0 hf hg2 e e1.symm (decide_eq_true hlt).symm e2.symm (decide_eq_true hglt).symm hgd rfl rfl hgt _ rfl hq _ 1 (-1) (-1) (cmp_is (by omega)) (cmp_is (by omega)) (cmp_is (by rw [hhd]; omega)) rfl (by decide) (by decide) (by decide) (by decide) (by decide) (by decide) (by decide) (by decide) (by decide) (by decide) (by decide) (by decide) xf
    by_cases z3 : v0 = hd
    · rcases g1 with q | q
      · have xf := (eqB (nl v0) hf (nf v0) hle q).1
        exact next_p4a w T p0 hf hg2 e e1.symm (decide_eq_true hlt).symm e2.symm (decide_eq_true hglt).symm hgd rfl rfl hgt _ rfl hq _ 1 (-1) 0 (cmp_is (by omega)) (cmp_is (by omega)) (cmp_is (by rw [hhd]; omega)) rfl (by decide) (by decide) (by decide) (by decide) (by decide) (by decide) (by decide) (by decide) (by decide) (by decide) (by decide) (by decide) xf
      · have xf := (neB (nl v0) hf (nf v0) hle (by rw [q]; exact fun c => hVne c.symm)).1
        have xg := (eqB (nl v0) hg2 (nf v0) hgle q).1
        exact next_p4b w T p0 hf hg2 e e1.symm (decide_eq_true hlt).symm e2.symm (decide_eq_true hglt).symm hgd rfl rfl hgt _ rfl hq _ 1 (-1) 0 (cmp_is (by omega)) (cmp_is (by omega)) (cmp_is (by rw [hhd]; omega)) rfl (by decide) (by decide) (by decide) (by decide) (by decide) (by decide) (by decide) (by decide) (by decide) (by decide) (by decide) (by decide) xf xg
    have q := g3 (by omega)
    have xf := (neB (nl v0) hf (nf v0) hle (by rw [q]; exact fun c => hVne c.symm)).1
    have xg := (eqB (nl v0) hg2 (nf v0) hgle q).1
    by_cases z6 : v0 = u2
    · exact next_p6 w T p0 hf hg2 e e1.symm (decide_eq_true hlt).symm e2.symm (decide_eq_true hglt).symm hgd rfl rfl hgt _ rfl hq _ 1 0 1 (cmp_is (by omega)) (cmp_is (by omega)) (cmp_is (by rw [hhd]; omega)) rfl (by decide) (by decide) (by decide) (by decide) (by decide) (by decide) (by decide) (by decide) (by decide) (by decide) (by decide) (by decide) xf xg
    · exact next_p5 w T p0 hf hg2 e e1.symm (decide_eq_true hlt).symm e2.symm (decide_eq_true hglt).symm hgd rfl rfl hgt _ rfl hq _ 1 (-1) 1 (cmp_is (by omega)) (cmp_is (by omega)) (cmp_is (by rw [hhd]; omega)) rfl (by decide) (by decide) (by decide) (by decide) (by decide) (by decide) (by decide) (by decide) (by decide) (by decide) (by decide) (by decide) xf xg
end Go.Proofs.YtnmjnjhijcnbcaaDoor.H9
