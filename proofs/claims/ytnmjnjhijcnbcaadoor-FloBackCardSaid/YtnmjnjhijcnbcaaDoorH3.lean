/-
  The law FloBack.
-/
import Derived.Test.YtnmjnjhijcnbcaaDoorGC
set_option linter.unusedVariables false
set_option linter.unusedSimpArgs false
namespace Go.Proofs.YtnmjnjhijcnbcaaDoor.H3
open Ieee Go Go.RowKit Go.Proofs.YtnmjnjhijcnbcaaDoor Go.Proofs.YtnmjnjhijcnbcaaDoor.Ow Go.Proofs.YtnmjnjhijcnbcaaDoor.Pl Go.Proofs.YtnmjnjhijcnbcaaDoor.Dp Go.Proofs.YtnmjnjhijcnbcaaDoor.Dt Go.Proofs.YtnmjnjhijcnbcaaDoor.Gp Go.Proofs.YtnmjnjhijcnbcaaDoor.Gq Go.Proofs.YtnmjnjhijcnbcaaDoor.Gr Go.Proofs.YtnmjnjhijcnbcaaDoor.G1 Go.Proofs.YtnmjnjhijcnbcaaDoor.G3 Go.Proofs.YtnmjnjhijcnbcaaDoor.G5 Go.Proofs.YtnmjnjhijcnbcaaDoor.G7 Go.Proofs.YtnmjnjhijcnbcaaDoor.F1 Go.Proofs.YtnmjnjhijcnbcaaDoor.H0

theorem pow53 (c : Nat) (hc : 3 ≤ c) : 2 ^ 53 ≤ 16777216 ^ c := Nat.le_trans (by decide : 2 ^ 53 ≤ 16777216 ^ 3) (Nat.pow_le_pow_right (by decide) hc)
theorem fv_len (b : Nat) : (digs (dm (fv b))).length ≤ 60 := by
  rw [← fv_sc, sc_m]
  apply digs_len_le.2
  exact Nat.lt_of_lt_of_le (odd_lt (sig_lt b)) (pow53 60 (by decide))
/-- How a float stands to the greatest ones, and to itself. -/
theorem max_facts {b : Nat} (hb : b < 2 * sgnW) :
    (frung b < infR → (FloatKind.f64.format.order b b != some .eq) = false ∧ (FloatKind.f64.format.order b 9218868437227405311 == some .gt) = false ∧ (FloatKind.f64.format.order b 18442240474082181119 == some .lt) = false) ∧
    (¬ frung b < infR → (FloatKind.f64.format.order b b != some .eq) = true ∨ ((FloatKind.f64.format.order b b != some .eq) = false ∧ (FloatKind.f64.format.order b 9218868437227405311 == some .gt) = true) ∨
      ((FloatKind.f64.format.order b b != some .eq) = false ∧ (FloatKind.f64.format.order b 9218868437227405311 == some .gt) = false ∧ (FloatKind.f64.format.order b 18442240474082181119 == some .lt) = true)) := by
  have hmx : (9218868437227405311 : Nat) < 2 * sgnW := by decide
  have fm : frung 9218868437227405311 = infR - 1 := by decide
  have vm : V 9218868437227405311 = (mag (infR - 1) : Int) := V_pos_word (by decide)
  have hmn : (18442240474082181119 : Nat) < 2 * sgnW := by decide
  have fn : frung 18442240474082181119 = infR - 1 := by decide
  have gn : fneg 18442240474082181119 = true := by decide
  have vn : V 18442240474082181119 = -(mag (infR - 1) : Int) := by unfold V sv; rw [fn, gn, if_pos rfl]
  have hm1 : mag (infR - 1) < mag infR := mag_mono (by decide)
  refine ⟨fun h => ?_, fun h => ?_⟩
  · have hf : frung b ≤ infR := by omega
    have h2 : mag (frung b) ≤ mag (infR - 1) := mag_le.2 (by omega)
    have h3 : -(mag (infR - 1) : Int) ≤ V b ∧ V b ≤ (mag (infR - 1) : Int) := by unfold V sv; split <;> omega
    rw [ord hb hb hf hf, c_eq rfl, ord hb hmx hf (by rw [fm]; omega), ord hb hmn hf (by rw [fn]; omega), vm, vn]
    refine ⟨rfl, ?_, ?_⟩
    · rcases Int.lt_or_eq_of_le h3.2 with q | q
      · rw [c_lt q]; rfl
      · rw [c_eq q]; rfl
    · rcases Int.lt_or_eq_of_le h3.1 with q | q
      · rw [c_gt q]; rfl
      · rw [c_eq q.symm]; rfl
  · by_cases hn : infR < frung b
    · left; rw [ord_no hb hb (.inl hn)]; rfl
    · right
      have hf : frung b = infR := by omega
      rw [ord hb hb (by omega) (by omega), c_eq rfl, ord hb hmx (by omega) (by rw [fm]; omega), ord hb hmn (by omega) (by rw [fn]; omega), vm, vn]
      unfold V sv
      rw [hf]
      cases fneg b
      · left; rw [if_neg (by decide), c_gt (by omega)]; exact ⟨rfl, rfl⟩
      · right; rw [if_pos rfl, c_lt (by omega), c_lt (by omega)]; exact ⟨rfl, rfl, rfl⟩
set_option maxHeartbeats 2000000 in
theorem back_calls {b : Nat} (hb : b < 2 * sgnW) (w : World) (T : Tab w) : Calls Tryd.prog 10 #[.float .f64 b] w (Tells w (.bool true)) := by
  have HD := Ho.mk (H2.head_calls w T)
  obtain ⟨m1, m2⟩ := max_facts hb
  by_cases h : frung b < infR
  · obtain ⟨q1, q2, q3⟩ := m1 h
    have O1 := Ho.mk (fun (W : World) (g : Bel w W) => ofD hb W (T.bel g) (v := fv b) (ok := true) (by rw [if_pos h]) (decide_eq_true h).symm)
    have c1 := near_back hb (Nat.le_of_lt h)
    have hl := fv_len b
    generalize hna : nw (fv b) = na at *
    have HN := Ho.mk hna
    clear hna m1 m2 h hb
    generalize fv b = v at *
    go_enter Tryd.func10, Tryd.ntmps10
    go_wp2_with fail
    (with_reducible refine HD.out.mono ?_); rintro _ w0 ⟨rfl, b0⟩
    go_wp2_with fail
    (with_reducible refine (O1.out _ b0).mono ?_); rintro _ w1 ⟨A1, k1, rfl, d1, b1⟩
    have D1 := Ho.mk d1
    have B1 := Ho.mk (b0.trans b1)
    have K1 := Ho.mk (Blk.new w1 [.bool (dneg v), .slice A1 (digs (dm v)).length k1, .int .i64 (de v)] 24)
    clear d1 b1 b0
    go_wp2_with fail
    (with_reducible refine (F6.rRight' (D1.out.bel ((Bel.refl w1).alloc _)) (by omega) (by omega) hl).mono ?_); rintro _ w2 ⟨rfl, b2⟩
    have K2 := Ho.mk (K1.out.bel b2)
    have E2 := Ho.mk (((Bel.refl w1).alloc _).trans b2)
    have y0 := K2.out.cell (i := 0) rfl
    have y1 := K2.out.cell (i := 1) rfl
    have y2 := K2.out.cell (i := 2) rfl
    clear b2
    go_wp2_with fail
    (with_reducible refine (near_calls (D1.out.bel E2.out) (by omega) (by omega)).mono ?_); rw [HN.out]; rintro _ w3 ⟨rfl, b3⟩
    have B3 := Ho.mk (B1.out.trans (E2.out.trans b3))
    clear b3
    go_wp2
    go_ret
    exact ⟨rfl, B3.out⟩
  · have O1 := Ho.mk (fun (W : World) (g : Bel w W) => ofD hb W (T.bel g) (v := 0) (ok := false) (by rw [if_neg h]) (decide_eq_false h).symm)
    rcases m2 h with q1 | ⟨q1, q2⟩ | ⟨q1, q2, q3⟩
    all_goals
      clear m1 m2 h hb
      go_enter Tryd.func10, Tryd.ntmps10
      go_wp2_with fail
      (with_reducible refine HD.out.mono ?_); rintro _ w0 ⟨rfl, b0⟩
      go_wp2_with fail
      (with_reducible refine (O1.out _ b0).mono ?_); rintro _ w1 ⟨A1, k1, rfl, d1, b1⟩
      have D1 := Ho.mk d1
      have B1 := Ho.mk (b0.trans b1)
      clear d1 b1 b0
      go_wp2_with fail
      (with_reducible refine (same0 (D1.out.bel ((Bel.refl w1).alloc _)) rfl).mono ?_); rintro _ w2 ⟨rfl, b2⟩
      have B3 := Ho.mk (B1.out.trans (((Bel.refl w1).alloc _).trans b2))
      clear b2
      go_wp2
      go_ret
      exact ⟨rfl, B3.out⟩
theorem wf_lt {b : Nat} (h : (Lit.float .f64 b).wf = true) : b < 2 * sgnW := by
  simp only [Lit.wf, decide_eq_true_eq] at h
  exact h
theorem back_door (b : Nat) (W : World) (T : Tab W) (h : (Lit.float .f64 b).wf = true) : Calls Tryd.prog 10 #[.float .f64 b] W (Tells W (.bool true)) := back_calls (wf_lt h) W T
end Go.Proofs.YtnmjnjhijcnbcaaDoor.H3
