/-
  The walk of FloTells (its steps are printed by gen2.py).
-/
import Derived.Test.YtnmjnjhijcnbcaaDoorH4
import Derived.Deep.RegionHeld3
import Derived.Deep.DrawnRows
import Derived.Deep.DeepCutAuto
set_option linter.unusedVariables false
set_option linter.unusedSimpArgs false
namespace Go.Proofs.YtnmjnjhijcnbcaaDoor.H8
open Ieee Go Go.RowKit Go.Proofs.YtnmjnjhijcnbcaaDoor Go.Proofs.YtnmjnjhijcnbcaaDoor.Ow Go.Proofs.YtnmjnjhijcnbcaaDoor.Pl Go.Proofs.YtnmjnjhijcnbcaaDoor.Dp Go.Proofs.YtnmjnjhijcnbcaaDoor.Dt Go.Proofs.YtnmjnjhijcnbcaaDoor.Gp Go.Proofs.YtnmjnjhijcnbcaaDoor.Gq Go.Proofs.YtnmjnjhijcnbcaaDoor.Gr Go.Proofs.YtnmjnjhijcnbcaaDoor.G1 Go.Proofs.YtnmjnjhijcnbcaaDoor.G3 Go.Proofs.YtnmjnjhijcnbcaaDoor.G5 Go.Proofs.YtnmjnjhijcnbcaaDoor.G7 Go.Proofs.YtnmjnjhijcnbcaaDoor.E7 Go.Proofs.YtnmjnjhijcnbcaaDoor.F1 Go.Proofs.YtnmjnjhijcnbcaaDoor.H0 Go.Proofs.YtnmjnjhijcnbcaaDoor.H4

attribute [local go_sem ↓] Go.wp_at_zero Go.wp_at_succ
theorem next_same {b : Nat} (hb : b < 2 * sgnW) : alike (nxw b) (nxr b) = true := by
  unfold nxw nxr
  by_cases h : infR < frung b
  · rw [if_pos h, if_pos h]
    unfold alike
    rw [ord_no (by decide) hb (.inr h), ord_no (by decide) (by decide) (.inl (by decide)), ord_no hb hb (.inl h)]; rfl
  · rw [if_neg h, if_neg h]
    apply G4.alike_self
    by_cases hp : fneg b = false ∨ frung b = 0
    · rcases Nat.lt_or_eq_of_le (Nat.le_of_not_lt h) with q | q
      · rw [nx_pos hb hp q]; have : infR < 2 * sgnW := by decide
        omega
      · rcases hp with hp | hp
        · unfold nx; rw [if_pos (by unfold V sv; rw [hp, q]; rfl)]; exact hb
        · rw [hp] at q; exact absurd q (by decide)
    · have h0 : frung b ≠ 0 := fun c => hp (.inr c)
      have hn : fneg b = true := by
        cases q : fneg b
        · exact absurd (.inl q) hp
        · rfl
      rw [nx_neg hb hn h0]
      apply word_lt2
      have := (word_split hb).2
      omega
set_option maxRecDepth 100000 in
set_option maxHeartbeats 8000000 in
theorem tells_no {f g : Nat} (n0 : Bool) (A0 : Option Addr) (c0 : Nat) (l0 : List Int) (e0 : Int) (w : World) (T : Tab w) (hr0 : Rd w A0 l0) (hf : f < 2 * sgnW) (hg : g < 2 * sgnW) (hgd : H1.goodB n0 l0 e0 = false) :
    Calls Tryd.prog 9 #[.float .f64 f, .float .f64 g, .agg #[.bool n0, .slice A0 l0.length c0, .int .i64 e0]] w (Tells w (.bool true)) := by
  have TT := Ho.mk T
  have HG := Ho.mk (fun (W : World) (gw : Bel w W) => goodT n0 A0 c0 l0 e0 W (hr0.bel gw) hgd)
  obtain ⟨u1, hu1⟩ : ∃ u, (if frung f < infR then fv f else 0) = u := ⟨_, rfl⟩
  obtain ⟨k1, hk1⟩ : ∃ k, decide (frung f < infR) = k := ⟨_, rfl⟩
  have HO1 := Ho.mk (fun (W : World) (gw : Bel w W) => ofD (b := f) hf W (T.bel gw) (v := u1) (ok := k1) hu1.symm hk1.symm)
  have HO2 := Ho.mk (fun (W : World) (gw : Bel w W) => ofR (b := f) hf W (v := u1) (ok := k1) hu1.symm hk1.symm)
  clear hu1 hk1
  have HXY := Ho.mk (next_same hf)
  obtain ⟨ns, hns⟩ : ∃ b, alike f g = b := ⟨_, rfl⟩
  have HS := Ho.mk hns
  obtain ⟨nx1, hnx1⟩ : ∃ b, nxw f = b := ⟨_, rfl⟩
  rw [hnx1] at HXY
  have HX := Ho.mk hnx1
  obtain ⟨ny1, hny1⟩ : ∃ b, nxr f = b := ⟨_, rfl⟩
  rw [hny1] at HXY
  have HY := Ho.mk hny1
  clear hns hnx1 hny1
  have hF := Ho.mk hf
  have hG := Ho.mk hg
  clear T hgd hf hg
  cases k1 <;> cases ns
  all_goals
    go_enter Tryd.func9, Tryd.ntmps9
    go_wp2_with fail
    have KB0 := Ho.mk (Blk.new w [.bool n0, .slice A0 l0.length c0, .int .i64 e0] 24)
    have g0 := (Bel.refl w).alloc (.cells #[.bool n0, .slice A0 l0.length c0, .int .i64 e0] 24)
    have hZ : (w.alloc (.cells #[.bool n0, .slice A0 l0.length c0, .int .i64 e0] 24)) = (w.alloc (.cells #[.bool n0, .slice A0 l0.length c0, .int .i64 e0] 24)) := rfl
    generalize (w.alloc (.cells #[.bool n0, .slice A0 l0.length c0, .int .i64 e0] 24)) = w0 at *
    clear hZ
    (with_reducible refine (headT _ (TT.out.bel (g0.trans (Bel.refl _)))).mono ?_); rintro e w1 ⟨rfl, b1⟩
    go_wp2_with fail
    (with_reducible refine (HO1.out _ (g0.trans ((Bel.refl _).trans b1))).mono ?_); rintro e w2 ⟨A2, c2, rfl, n2, b2⟩
    have KB8 := Ho.mk (Blk.new w2 [.bool (dneg u1), .slice A2 (digs (dm u1)).length c2, .int .i64 (de u1)] 24)
    go_wp2_with fail
    (with_reducible refine (HO2.out _ (g0.trans ((((Bel.refl _).trans b1).trans b2).alloc (.cells #[.bool (dneg u1), .slice A2 (digs (dm u1)).length c2, .int .i64 (de u1)] 24)))).mono ?_); rintro e w3 ⟨A3, c3, rfl, n3, b3⟩
    have KB10 := Ho.mk (Blk.new w3 [.bool (dneg u1), .slice A3 (digs (dm u1)).length c3, .int .i64 (de u1)] 24)
    have KB8_3x := Ho.mk ((KB8.out.bel (((Bel.refl _).trans b3).alloc (.cells #[.bool (dneg u1), .slice A3 (digs (dm u1)).length c3, .int .i64 (de u1)] 24))))
    have yB8_3x_0 := KB8_3x.out.cell (i := 0) rfl
    have yB8_3x_1 := KB8_3x.out.cell (i := 1) rfl
    have yB8_3x_2 := KB8_3x.out.cell (i := 2) rfl
    have KB10_3x := Ho.mk (KB10.out)
    have yB10_3x_0 := KB10_3x.out.cell (i := 0) rfl
    have yB10_3x_1 := KB10_3x.out.cell (i := 1) rfl
    have yB10_3x_2 := KB10_3x.out.cell (i := 2) rfl
    go_wp2_with fail
    (with_reducible refine (F1.same (n2.bel ((((Bel.refl _).alloc (.cells #[.bool (dneg u1), .slice A2 (digs (dm u1)).length c2, .int .i64 (de u1)] 24)).trans b3).alloc (.cells #[.bool (dneg u1), .slice A3 (digs (dm u1)).length c3, .int .i64 (de u1)] 24))) (n3.bel ((Bel.refl _).alloc (.cells #[.bool (dneg u1), .slice A3 (digs (dm u1)).length c3, .int .i64 (de u1)] 24))) rfl).mono ?_); rintro e w4 ⟨rfl, b4⟩
    clear yB8_3x_0 yB8_3x_1 yB8_3x_2 yB10_3x_0 yB10_3x_1 yB10_3x_2
    go_wp2_with fail
    (with_reducible refine (fsameT hF.out hG.out _ HS.out).mono ?_); rintro e w5 ⟨rfl, b5⟩
    go_wp2_with fail
    (with_reducible refine (rsameT _ _ _ HS.out).mono ?_); rintro e w6 ⟨rfl, b6⟩
    go_wp2_with fail
    (with_reducible refine (nextT hF.out _ HX.out).mono ?_); rintro e w7 ⟨rfl, b7⟩
    go_wp2_with fail
    (with_reducible refine (rnextT hF.out _ HY.out).mono ?_); rintro e w8 ⟨rfl, b8⟩
    go_wp2_with fail
    (with_reducible refine (rsameT _ _ _ HXY.out).mono ?_); rintro e w9 ⟨rfl, b9⟩
    go_wp2_with fail
    have KB5_r6 := Ho.mk ((KB0.out.bel ((((((((((((Bel.refl _).trans b1).trans b2).alloc (.cells #[.bool (dneg u1), .slice A2 (digs (dm u1)).length c2, .int .i64 (de u1)] 24)).trans b3).alloc (.cells #[.bool (dneg u1), .slice A3 (digs (dm u1)).length c3, .int .i64 (de u1)] 24)).trans b4).trans b5).trans b6).trans b7).trans b8).trans b9)))
    have yB5_r6_0 := KB5_r6.out.cell (i := 0) rfl
    have yB5_r6_1 := KB5_r6.out.cell (i := 1) rfl
    have yB5_r6_2 := KB5_r6.out.cell (i := 2) rfl
    refine wp_region_held_drew (S := fun w' => Bel w9 w') (by kernel_rfl) (Bel.refl _).drew (fun hHeld => ?_)
    (try dsimp only at hHeld)
    refine r_take (i := 0) (v := ?_) rfl (by kernel_rfl) (by kernel_rfl) (by kernel_rfl) (fun _ _ _ h => h) (by kernel_rfl) hHeld ?_ ?_
    rotate_left
    · (intro w hSw; go_simp; try (with_reducible rfl))
    try simp only [Act.put, List.setIfInBounds_toArray, List.set_cons_zero, List.set_cons_succ]
    refine r_take (i := 1) (v := ?_) rfl (by kernel_rfl) (by kernel_rfl) (by kernel_rfl) (fun _ _ _ h => h) (by kernel_rfl) hHeld ?_ ?_
    rotate_left
    · (intro w hSw; go_simp; try (with_reducible rfl))
    try simp only [Act.put, List.setIfInBounds_toArray, List.set_cons_zero, List.set_cons_succ]
    refine r_take (i := 2) (v := ?_) rfl (by kernel_rfl) (by kernel_rfl) (by kernel_rfl) (fun _ _ _ h => h) (by kernel_rfl) hHeld ?_ ?_
    rotate_left
    · (intro w hSw; have z0 := Bel.cell hSw yB5_r6_0; have z1 := Bel.cell hSw yB5_r6_1; have z2 := Bel.cell hSw yB5_r6_2; go_simp; try (with_reducible rfl))
    try simp only [Act.put, List.setIfInBounds_toArray, List.set_cons_zero, List.set_cons_succ]
    refine r_call (i := 3) (by kernel_rfl) rfl (by kernel_rfl) (fun K hK => ?_)
    go_simp
    go_at_call 46
    (with_reducible refine ((HG.out _ (g0.trans (((((((((((((Bel.refl _).trans b1).trans b2).alloc (.cells #[.bool (dneg u1), .slice A2 (digs (dm u1)).length c2, .int .i64 (de u1)] 24)).trans b3).alloc (.cells #[.bool (dneg u1), .slice A3 (digs (dm u1)).length c3, .int .i64 (de u1)] 24)).trans b4).trans b5).trans b6).trans b7).trans b8).trans b9).drew)))).mono ?_); rintro e w10 ⟨rfl, b10⟩
    try go_wp2_with fail
    refine hK.out _ _ (Bel.trans hHeld b10) (fun hHeld => ?_)
    clear hK K
    try simp only [Act.put, List.setIfInBounds_toArray, List.set_cons_zero, List.set_cons_succ]
    refine r_take (i := 4) (v := ?_) rfl (by kernel_rfl) (by kernel_rfl) (by kernel_rfl) (fun _ _ _ h => h) (by kernel_rfl) hHeld ?_ ?_
    rotate_left
    · (intro w hSw; go_simp; try (with_reducible rfl))
    try simp only [Act.put, List.setIfInBounds_toArray, List.set_cons_zero, List.set_cons_succ]
    refine r_take (i := 5) (v := ?_) rfl (by kernel_rfl) (by kernel_rfl) (by kernel_rfl) (fun _ _ _ h => h) (by kernel_rfl) hHeld ?_ ?_
    rotate_left
    · (intro w hSw; go_simp; try (with_reducible rfl))
    try simp only [Act.put, List.setIfInBounds_toArray, List.set_cons_zero, List.set_cons_succ]
    refine r_not (i := 6) rfl (by kernel_rfl) (by kernel_rfl) (by kernel_rfl) (fun _ _ _ h => h) (by kernel_rfl) hHeld ?_
    try simp only [Act.put, List.setIfInBounds_toArray, List.set_cons_zero, List.set_cons_succ]
    refine r_not (i := 7) rfl (by kernel_rfl) (by kernel_rfl) (by kernel_rfl) (fun _ _ _ h => h) (by kernel_rfl) hHeld ?_
    try simp only [Act.put, List.setIfInBounds_toArray, List.set_cons_zero, List.set_cons_succ]
    refine r_not (i := 8) rfl (by kernel_rfl) (by kernel_rfl) (by kernel_rfl) (fun _ _ _ h => h) (by kernel_rfl) hHeld ?_
    try simp only [Act.put, List.setIfInBounds_toArray, List.set_cons_zero, List.set_cons_succ]
    refine r_not (i := 9) rfl (by kernel_rfl) (by kernel_rfl) (by kernel_rfl) (fun _ _ _ h => h) (by kernel_rfl) hHeld ?_
    try simp only [Act.put, List.setIfInBounds_toArray, List.set_cons_zero, List.set_cons_succ]
    refine r_not (i := 10) rfl (by kernel_rfl) (by kernel_rfl) (by kernel_rfl) (fun _ _ _ h => h) (by kernel_rfl) hHeld ?_
    try simp only [Act.put, List.setIfInBounds_toArray, List.set_cons_zero, List.set_cons_succ]
    refine r_take (i := 11) (v := ?_) rfl (by kernel_rfl) (by kernel_rfl) (by kernel_rfl) (fun _ _ _ h => h) (by kernel_rfl) hHeld ?_ ?_
    rotate_left
    · (intro w hSw; go_simp; try (with_reducible rfl))
    try simp only [Act.put, List.setIfInBounds_toArray, List.set_cons_zero, List.set_cons_succ]
    refine r_take (i := 12) (v := ?_) rfl (by kernel_rfl) (by kernel_rfl) (by kernel_rfl) (fun _ _ _ h => h) (by kernel_rfl) hHeld ?_ ?_
    rotate_left
    · (intro w hSw; go_simp; try (with_reducible rfl))
    try simp only [Act.put, List.setIfInBounds_toArray, List.set_cons_zero, List.set_cons_succ]
    refine r_take (i := 13) (v := ?_) rfl (by kernel_rfl) (by kernel_rfl) (by kernel_rfl) (fun _ _ _ h => h) (by kernel_rfl) hHeld ?_ ?_
    rotate_left
    · (intro w hSw; go_simp; try (with_reducible rfl))
    try simp only [Act.put, List.setIfInBounds_toArray, List.set_cons_zero, List.set_cons_succ]
    refine wpAnyH_done (by kernel_rfl) ?_ _
    all_goals
      have HE := Ho.mk (g0.trans ((((((((((((((Bel.refl _).trans b1).trans b2).alloc (.cells #[.bool (dneg u1), .slice A2 (digs (dm u1)).length c2, .int .i64 (de u1)] 24)).trans b3).alloc (.cells #[.bool (dneg u1), .slice A3 (digs (dm u1)).length c3, .int .i64 (de u1)] 24)).trans b4).trans b5).trans b6).trans b7).trans b8).trans b9).drew).trans b10))
      go_wp2
      go_ret
      exact ⟨rfl, HE.out⟩
set_option maxRecDepth 100000 in
set_option maxHeartbeats 8000000 in
theorem tells_yes {f g : Nat} {A0 : Option Addr} {c0 : Nat} {v0 : Int} (w : World) (T : Tab w) (p0 : Dv w A0 c0 v0 3000 3480) (hf : f < 2 * sgnW) (hg : g < 2 * sgnW) (hgd : H1.goodB (dneg v0) (digs (dm v0)) (de v0) = true) :
    Calls Tryd.prog 9 #[.float .f64 f, .float .f64 g, .agg #[.bool (dneg v0), .slice A0 (digs (dm v0)).length c0, .int .i64 (de v0)]] w (Tells w (.bool true)) := by
  have TT := Ho.mk T
  have HG := Ho.mk (fun (W : World) (gw : Bel w W) => goodT (dneg v0) A0 c0 (digs (dm v0)) (de v0) W (p0.rd.bel gw) hgd)
  obtain ⟨u1, hu1⟩ : ∃ u, (if frung f < infR then fv f else 0) = u := ⟨_, rfl⟩
  obtain ⟨k1, hk1⟩ : ∃ k, decide (frung f < infR) = k := ⟨_, rfl⟩
  have HO1 := Ho.mk (fun (W : World) (gw : Bel w W) => ofD (b := f) hf W (T.bel gw) (v := u1) (ok := k1) hu1.symm hk1.symm)
  have HO2 := Ho.mk (fun (W : World) (gw : Bel w W) => ofR (b := f) hf W (v := u1) (ok := k1) hu1.symm hk1.symm)
  clear hu1 hk1
  have HXY := Ho.mk (next_same hf)
  obtain ⟨ns, hns⟩ : ∃ b, alike f g = b := ⟨_, rfl⟩
  have HS := Ho.mk hns
  obtain ⟨nx1, hnx1⟩ : ∃ b, nxw f = b := ⟨_, rfl⟩
  rw [hnx1] at HXY
  have HX := Ho.mk hnx1
  obtain ⟨ny1, hny1⟩ : ∃ b, nxr f = b := ⟨_, rfl⟩
  rw [hny1] at HXY
  have HY := Ho.mk hny1
  clear hns hnx1 hny1
  have HNN := Ho.mk (G4.alike_self (nw_facts v0).1)
  obtain ⟨na, hna⟩ : ∃ n, nw v0 = n := ⟨_, rfl⟩
  rw [hna] at HNN
  have HNA := Ho.mk hna
  clear hna
  have hF := Ho.mk hf
  have hG := Ho.mk hg
  clear T hgd hf hg
  cases k1 <;> cases ns
  all_goals
    go_enter Tryd.func9, Tryd.ntmps9
    go_wp2_with fail
    have KB0 := Ho.mk (Blk.new w [.bool (dneg v0), .slice A0 (digs (dm v0)).length c0, .int .i64 (de v0)] 24)
    have g0 := (Bel.refl w).alloc (.cells #[.bool (dneg v0), .slice A0 (digs (dm v0)).length c0, .int .i64 (de v0)] 24)
    have hZ : (w.alloc (.cells #[.bool (dneg v0), .slice A0 (digs (dm v0)).length c0, .int .i64 (de v0)] 24)) = (w.alloc (.cells #[.bool (dneg v0), .slice A0 (digs (dm v0)).length c0, .int .i64 (de v0)] 24)) := rfl
    generalize (w.alloc (.cells #[.bool (dneg v0), .slice A0 (digs (dm v0)).length c0, .int .i64 (de v0)] 24)) = w0 at *
    clear hZ
    (with_reducible refine (headT _ (TT.out.bel (g0.trans (Bel.refl _)))).mono ?_); rintro e w1 ⟨rfl, b1⟩
    go_wp2_with fail
    (with_reducible refine (HO1.out _ (g0.trans ((Bel.refl _).trans b1))).mono ?_); rintro e w2 ⟨A2, c2, rfl, n2, b2⟩
    have KB8 := Ho.mk (Blk.new w2 [.bool (dneg u1), .slice A2 (digs (dm u1)).length c2, .int .i64 (de u1)] 24)
    go_wp2_with fail
    (with_reducible refine (HO2.out _ (g0.trans ((((Bel.refl _).trans b1).trans b2).alloc (.cells #[.bool (dneg u1), .slice A2 (digs (dm u1)).length c2, .int .i64 (de u1)] 24)))).mono ?_); rintro e w3 ⟨A3, c3, rfl, n3, b3⟩
    have KB10 := Ho.mk (Blk.new w3 [.bool (dneg u1), .slice A3 (digs (dm u1)).length c3, .int .i64 (de u1)] 24)
    have KB8_3x := Ho.mk ((KB8.out.bel (((Bel.refl _).trans b3).alloc (.cells #[.bool (dneg u1), .slice A3 (digs (dm u1)).length c3, .int .i64 (de u1)] 24))))
    have yB8_3x_0 := KB8_3x.out.cell (i := 0) rfl
    have yB8_3x_1 := KB8_3x.out.cell (i := 1) rfl
    have yB8_3x_2 := KB8_3x.out.cell (i := 2) rfl
    have KB10_3x := Ho.mk (KB10.out)
    have yB10_3x_0 := KB10_3x.out.cell (i := 0) rfl
    have yB10_3x_1 := KB10_3x.out.cell (i := 1) rfl
    have yB10_3x_2 := KB10_3x.out.cell (i := 2) rfl
    go_wp2_with fail
    (with_reducible refine (F1.same (n2.bel ((((Bel.refl _).alloc (.cells #[.bool (dneg u1), .slice A2 (digs (dm u1)).length c2, .int .i64 (de u1)] 24)).trans b3).alloc (.cells #[.bool (dneg u1), .slice A3 (digs (dm u1)).length c3, .int .i64 (de u1)] 24))) (n3.bel ((Bel.refl _).alloc (.cells #[.bool (dneg u1), .slice A3 (digs (dm u1)).length c3, .int .i64 (de u1)] 24))) rfl).mono ?_); rintro e w4 ⟨rfl, b4⟩
    clear yB8_3x_0 yB8_3x_1 yB8_3x_2 yB10_3x_0 yB10_3x_1 yB10_3x_2
    go_wp2_with fail
    (with_reducible refine (fsameT hF.out hG.out _ HS.out).mono ?_); rintro e w5 ⟨rfl, b5⟩
    go_wp2_with fail
    (with_reducible refine (rsameT _ _ _ HS.out).mono ?_); rintro e w6 ⟨rfl, b6⟩
    go_wp2_with fail
    (with_reducible refine (nextT hF.out _ HX.out).mono ?_); rintro e w7 ⟨rfl, b7⟩
    go_wp2_with fail
    (with_reducible refine (rnextT hF.out _ HY.out).mono ?_); rintro e w8 ⟨rfl, b8⟩
    go_wp2_with fail
    (with_reducible refine (rsameT _ _ _ HXY.out).mono ?_); rintro e w9 ⟨rfl, b9⟩
    go_wp2_with fail
    have KB5_r6 := Ho.mk ((KB0.out.bel ((((((((((((Bel.refl _).trans b1).trans b2).alloc (.cells #[.bool (dneg u1), .slice A2 (digs (dm u1)).length c2, .int .i64 (de u1)] 24)).trans b3).alloc (.cells #[.bool (dneg u1), .slice A3 (digs (dm u1)).length c3, .int .i64 (de u1)] 24)).trans b4).trans b5).trans b6).trans b7).trans b8).trans b9)))
    have yB5_r6_0 := KB5_r6.out.cell (i := 0) rfl
    have yB5_r6_1 := KB5_r6.out.cell (i := 1) rfl
    have yB5_r6_2 := KB5_r6.out.cell (i := 2) rfl
    refine wp_region_held_drew (S := fun w' => Bel w9 w') (by kernel_rfl) (Bel.refl _).drew (fun hHeld => ?_)
    (try dsimp only at hHeld)
    refine r_take (i := 0) (v := ?_) rfl (by kernel_rfl) (by kernel_rfl) (by kernel_rfl) (fun _ _ _ h => h) (by kernel_rfl) hHeld ?_ ?_
    rotate_left
    · (intro w hSw; go_simp; try (with_reducible rfl))
    try simp only [Act.put, List.setIfInBounds_toArray, List.set_cons_zero, List.set_cons_succ]
    refine r_take (i := 1) (v := ?_) rfl (by kernel_rfl) (by kernel_rfl) (by kernel_rfl) (fun _ _ _ h => h) (by kernel_rfl) hHeld ?_ ?_
    rotate_left
    · (intro w hSw; go_simp; try (with_reducible rfl))
    try simp only [Act.put, List.setIfInBounds_toArray, List.set_cons_zero, List.set_cons_succ]
    refine r_take (i := 2) (v := ?_) rfl (by kernel_rfl) (by kernel_rfl) (by kernel_rfl) (fun _ _ _ h => h) (by kernel_rfl) hHeld ?_ ?_
    rotate_left
    · (intro w hSw; have z0 := Bel.cell hSw yB5_r6_0; have z1 := Bel.cell hSw yB5_r6_1; have z2 := Bel.cell hSw yB5_r6_2; go_simp; try (with_reducible rfl))
    try simp only [Act.put, List.setIfInBounds_toArray, List.set_cons_zero, List.set_cons_succ]
    refine r_call (i := 3) (by kernel_rfl) rfl (by kernel_rfl) (fun K hK => ?_)
    go_simp
    go_at_call 46
    (with_reducible refine ((HG.out _ (g0.trans (((((((((((((Bel.refl _).trans b1).trans b2).alloc (.cells #[.bool (dneg u1), .slice A2 (digs (dm u1)).length c2, .int .i64 (de u1)] 24)).trans b3).alloc (.cells #[.bool (dneg u1), .slice A3 (digs (dm u1)).length c3, .int .i64 (de u1)] 24)).trans b4).trans b5).trans b6).trans b7).trans b8).trans b9).drew)))).mono ?_); rintro e w10 ⟨rfl, b10⟩
    try go_wp2_with fail
    refine hK.out _ _ (Bel.trans hHeld b10) (fun hHeld => ?_)
    clear hK K
    try simp only [Act.put, List.setIfInBounds_toArray, List.set_cons_zero, List.set_cons_succ]
    refine r_take (i := 4) (v := ?_) rfl (by kernel_rfl) (by kernel_rfl) (by kernel_rfl) (fun _ _ _ h => h) (by kernel_rfl) hHeld ?_ ?_
    rotate_left
    · (intro w hSw; go_simp; try (with_reducible rfl))
    try simp only [Act.put, List.setIfInBounds_toArray, List.set_cons_zero, List.set_cons_succ]
    refine r_take (i := 5) (v := ?_) rfl (by kernel_rfl) (by kernel_rfl) (by kernel_rfl) (fun _ _ _ h => h) (by kernel_rfl) hHeld ?_ ?_
    rotate_left
    · (intro w hSw; go_simp; try (with_reducible rfl))
    try simp only [Act.put, List.setIfInBounds_toArray, List.set_cons_zero, List.set_cons_succ]
    refine r_take (i := 6) (v := ?_) rfl (by kernel_rfl) (by kernel_rfl) (by kernel_rfl) (fun _ _ _ h => h) (by kernel_rfl) hHeld ?_ ?_
    rotate_left
    · (intro w hSw; have z0 := Bel.cell hSw yB5_r6_0; have z1 := Bel.cell hSw yB5_r6_1; have z2 := Bel.cell hSw yB5_r6_2; go_simp; try (with_reducible rfl))
    try simp only [Act.put, List.setIfInBounds_toArray, List.set_cons_zero, List.set_cons_succ]
    refine r_take (i := 8) (v := ?_) rfl (by kernel_rfl) (by kernel_rfl) (by kernel_rfl) (fun _ _ _ h => h) (by kernel_rfl) hHeld ?_ ?_
    rotate_left
    · (intro w hSw; have z0 := Bel.cell hSw yB5_r6_0; have z1 := Bel.cell hSw yB5_r6_1; have z2 := Bel.cell hSw yB5_r6_2; go_simp; try (with_reducible rfl))
    try simp only [Act.put, List.setIfInBounds_toArray, List.set_cons_zero, List.set_cons_succ]
    refine r_call (i := 7) (by kernel_rfl) rfl (by kernel_rfl) (fun K hK => ?_)
    go_simp
    go_at_call 47
    (with_reducible refine (nearD ((p0.bel g0).bel ((((((((((((((Bel.refl _).trans b1).trans b2).alloc (.cells #[.bool (dneg u1), .slice A2 (digs (dm u1)).length c2, .int .i64 (de u1)] 24)).trans b3).alloc (.cells #[.bool (dneg u1), .slice A3 (digs (dm u1)).length c3, .int .i64 (de u1)] 24)).trans b4).trans b5).trans b6).trans b7).trans b8).trans b9).drew).trans b10)) (by omega) (by omega) (r := na) HNA.out).mono ?_); rintro e w11 ⟨rfl, b11⟩
    try go_wp2_with fail
    refine hK.out _ _ (Bel.trans hHeld b11) (fun hHeld => ?_)
    clear hK K
    try simp only [Act.put, List.setIfInBounds_toArray, List.set_cons_zero, List.set_cons_succ]
    refine r_call (i := 9) (by kernel_rfl) rfl (by kernel_rfl) (fun K hK => ?_)
    go_simp
    go_at_call 48
    (with_reducible refine (nearR ((p0.bel g0).bel (((((((((((((((Bel.refl _).trans b1).trans b2).alloc (.cells #[.bool (dneg u1), .slice A2 (digs (dm u1)).length c2, .int .i64 (de u1)] 24)).trans b3).alloc (.cells #[.bool (dneg u1), .slice A3 (digs (dm u1)).length c3, .int .i64 (de u1)] 24)).trans b4).trans b5).trans b6).trans b7).trans b8).trans b9).drew).trans b10).trans b11)) (by omega) (by omega) (r := na) HNA.out).mono ?_); rintro e w12 ⟨rfl, b12⟩
    try go_wp2_with fail
    refine hK.out _ _ (Bel.trans hHeld b12) (fun hHeld => ?_)
    clear hK K
    try simp only [Act.put, List.setIfInBounds_toArray, List.set_cons_zero, List.set_cons_succ]
    refine r_call (i := 10) (by kernel_rfl) rfl (by kernel_rfl) (fun K hK => ?_)
    go_simp
    go_at_call 43
    (with_reducible refine (rsameT _ _ _ HNN.out).mono ?_); rintro e w13 ⟨rfl, b13⟩
    try go_wp2_with fail
    refine hK.out _ _ (Bel.trans hHeld b13) (fun hHeld => ?_)
    clear hK K
    try simp only [Act.put, List.setIfInBounds_toArray, List.set_cons_zero, List.set_cons_succ]
    refine r_take (i := 11) (v := ?_) rfl (by kernel_rfl) (by kernel_rfl) (by kernel_rfl) (fun _ _ _ h => h) (by kernel_rfl) hHeld ?_ ?_
    rotate_left
    · (intro w hSw; go_simp; try (with_reducible rfl))
    try simp only [Act.put, List.setIfInBounds_toArray, List.set_cons_zero, List.set_cons_succ]
    refine r_take (i := 12) (v := ?_) rfl (by kernel_rfl) (by kernel_rfl) (by kernel_rfl) (fun _ _ _ h => h) (by kernel_rfl) hHeld ?_ ?_
    rotate_left
    · (intro w hSw; go_simp; try (with_reducible rfl))
    try simp only [Act.put, List.setIfInBounds_toArray, List.set_cons_zero, List.set_cons_succ]
    refine r_take (i := 13) (v := ?_) rfl (by kernel_rfl) (by kernel_rfl) (by kernel_rfl) (fun _ _ _ h => h) (by kernel_rfl) hHeld ?_ ?_
    rotate_left
    · (intro w hSw; go_simp; try (with_reducible rfl))
    try simp only [Act.put, List.setIfInBounds_toArray, List.set_cons_zero, List.set_cons_succ]
    refine wpAnyH_done (by kernel_rfl) ?_ _
    all_goals
      have HE := Ho.mk (g0.trans (((((((((((((((((Bel.refl _).trans b1).trans b2).alloc (.cells #[.bool (dneg u1), .slice A2 (digs (dm u1)).length c2, .int .i64 (de u1)] 24)).trans b3).alloc (.cells #[.bool (dneg u1), .slice A3 (digs (dm u1)).length c3, .int .i64 (de u1)] 24)).trans b4).trans b5).trans b6).trans b7).trans b8).trans b9).drew).trans b10).trans b11).trans b12).trans b13))
      go_wp2
      go_ret
      exact ⟨rfl, HE.out⟩
theorem tells_door (f g : Nat) (n0 : Bool) (A0 : Option Addr) (c0 : Nat) (l0 : List Int) (e0 : Int) (w : World) (T : Tab w) (h0 : Rd w A0 l0) (k0 : l0.length ≤ c0) (hf : (Lit.float .f64 f).wf = true) (hg : (Lit.float .f64 g).wf = true) :
    Calls Tryd.prog 9 #[.float .f64 f, .float .f64 g, .agg #[.bool n0, .slice A0 l0.length c0, .int .i64 e0]] w (Tells w (.bool true)) := by
  cases hgd : H1.goodB n0 l0 e0 with
  | false => exact tells_no n0 A0 c0 l0 e0 w T h0 (wf_lt hf) (wf_lt hg) hgd
  | true =>
    obtain ⟨v0, rfl, rfl, rfl, _, wd⟩ := H1.good_num hgd
    exact tells_yes w T ⟨k0, h0, wd⟩ (wf_lt hf) (wf_lt hg) hgd
end Go.Proofs.YtnmjnjhijcnbcaaDoor.H8
