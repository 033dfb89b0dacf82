/-
  Joined texts: H0, H1, H2.
-/
import Derived.Test.YtnmjnjhijcnbcaaDoorGB
import Derived.Test.YtnmjnjhijcnbcaaDoorF6
import Derived.Test.YtnmjnjhijcnbcaaDoorF2
import Derived.Test.YtnmjnjhijcnbcaaDoorF0
set_option linter.unusedVariables false
set_option linter.unusedSimpArgs false
/-
  Plain facts of the head of layer 3's laws; Of in one shape.
-/
namespace Go.Proofs.YtnmjnjhijcnbcaaDoor.H0
open Ieee Go Go.RowKit Go.Proofs.YtnmjnjhijcnbcaaDoor Go.Proofs.YtnmjnjhijcnbcaaDoor.Ow Go.Proofs.YtnmjnjhijcnbcaaDoor.Pl Go.Proofs.YtnmjnjhijcnbcaaDoor.Dp Go.Proofs.YtnmjnjhijcnbcaaDoor.Dt Go.Proofs.YtnmjnjhijcnbcaaDoor.Gp Go.Proofs.YtnmjnjhijcnbcaaDoor.Gq Go.Proofs.YtnmjnjhijcnbcaaDoor.Gr Go.Proofs.YtnmjnjhijcnbcaaDoor.G1 Go.Proofs.YtnmjnjhijcnbcaaDoor.G3 Go.Proofs.YtnmjnjhijcnbcaaDoor.F1 Go.Proofs.YtnmjnjhijcnbcaaDoor.G5

theorem ofD {b : Nat} (hb : b < 2 * sgnW) (w : World) (T : Tab w) {v : Int} {ok : Bool} (hv : v = if frung b < infR then fv b else 0) (ho : ok = decide (frung b < infR)) :
    Calls Tryd.prog 40 #[.float .f64 b] w (MakesF w v ok 1074 1024) := by
  subst hv; subst ho
  by_cases h : frung b < infR
  · rw [if_pos h, decide_eq_true h]; exact of_yes_calls hb h w T
  · rw [if_neg h, decide_eq_false h]; exact of_no_calls hb h w
theorem ofR {b : Nat} (hb : b < 2 * sgnW) (w : World) {v : Int} {ok : Bool} (hv : v = if frung b < infR then fv b else 0) (ho : ok = decide (frung b < infR)) :
    Calls Tryd.prog 41 #[.float .f64 b] w (MakesF w v ok 1074 1024) := by
  subst hv; subst ho
  by_cases h : frung b < infR
  · rw [if_pos h, decide_eq_true h]; exact rof_yes_calls hb h w
  · rw [if_neg h, decide_eq_false h]; exact rof_no_calls hb h w
theorem ord_eq {a b : Nat} (ha : a < 2 * sgnW) (hb : b < 2 * sgnW) (fa : frung a ≤ infR) (fb : frung b ≤ infR) : (FloatKind.f64.format.order a b == some .eq) = decide (V a = V b) := by
  rw [ord ha hb fa fb]
  rcases Int.lt_trichotomy (V a) (V b) with h | h | h
  · rw [c_lt h, decide_eq_false (by omega)]; rfl
  · rw [c_eq h, decide_eq_true h]; rfl
  · rw [c_gt h, decide_eq_false (by omega)]; rfl
theorem near_back {b : Nat} (hb : b < 2 * sgnW) (h : frung b ≤ infR) : (FloatKind.f64.format.order (nw (fv b)) b == some .eq) = true := by
  obtain ⟨n1, n2, _⟩ := nw_facts (fv b)
  rw [ord_eq n1 hb (by rw [n2]; exact nr_le _) h, decide_eq_true (V_back h)]
/-- 0.75 -/
theorem h_a : fv 4604930618986332160 = sc false 3 (-2) := by
  rw [← fv_sc]
  have e1 : sig (frung 4604930618986332160) = 3 * 2 ^ 51 := by decide
  have e2 : plc (frung 4604930618986332160) = 1021 := by decide
  have e3 : fneg 4604930618986332160 = false := by decide
  rw [e1, e2, e3, sc_down _ _ _ _ (by unfold K; decide)]; rfl
theorem h_b : sgn (fv 13815242216921733530) = -1 := by
  have hv : fv 13815242216921733530 < 0 := by
    have hp := two_pos S
    unfold fv
    refine Int.mul_neg_of_neg_of_pos ?_ hp
    have h1 : fneg 13815242216921733530 = true := by decide
    have h2 : 0 < mag (frung 13815242216921733530) := by
      have := mag_mono (show 0 < frung 13815242216921733530 by decide)
      rw [mag_zero] at this; exact this
    unfold V sv
    rw [h1, if_pos rfl]; omega
  exact cmpI_lt hv
theorem tz1 : tz 1 = 0 := tz_odd (by decide)
theorem lit_de {n : Bool} {x : Nat} {e : Int} (hx : x % 2 = 1) (he : -(K : Int) ≤ e) : de (sc n x e) = e ∧ dm (sc n x e) = x ∧ dneg (sc n x e) = n ∧ sc n x e ≠ 0 := by
  have h0 : x ≠ 0 := by omega
  exact ⟨by rw [sc_e h0 he, tz_odd hx]; omega, by rw [sc_m, odd_self hx], sc_neg h0, sc_ne h0⟩
theorem log1 : Nat.log2 1 = 0 := by decide
theorem log3 : Nat.log2 3 = 1 := by decide
theorem h_inf : nw (sc false 1 1024) = infR := by
  obtain ⟨a, b, c, d⟩ := lit_de (n := false) (x := 1) (e := 1024) (by decide) (by unfold K; decide)
  rw [near_top (by rw [a, b, log1]; decide) d, c, word_eq, if_neg (by decide)]
theorem h_zero : V (nw (sc true 1 (-1075))) = 0 ∧ frung (nw (sc true 1 (-1075))) = 0 := by
  obtain ⟨a, b, c, d⟩ := lit_de (n := true) (x := 1) (e := -1075) (by decide) (by unfold K; decide)
  obtain ⟨_, m2, _, _⟩ := near_mid d (by rw [a, b, log1]; decide) (by rw [a, b, log1]; decide) (-1074) (by rw [a, b, log1]; decide) 0 (by rw [a, b]; decide)
  have hz : nr (sc true 1 (-1075)) = 0 := by rw [m2]; rfl
  obtain ⟨_, n2, n3⟩ := nw_facts (sc true 1 (-1075))
  exact ⟨by rw [n3, hz, mag_zero, sv_zero], by rw [n2, hz]⟩
theorem h_one : nw (sc false 3 (-1076)) = 1 := by
  obtain ⟨a, b, c, d⟩ := lit_de (n := false) (x := 3) (e := -1076) (by decide) (by unfold K; decide)
  obtain ⟨m1, m2, _, _⟩ := near_mid d (by rw [a, b, log3]; decide) (by rw [a, b, log3]; decide) (-1074) (by rw [a, b, log3]; decide) 1 (by rw [a, b]; decide)
  rw [m1, m2, c, word_eq, if_neg (by decide)]; rfl
theorem h_nan : alike 9221120237041090561 9221120237041090561 = true := alike_nan
  where alike_nan : alike 9221120237041090561 9221120237041090561 = true := G4.alike_self (by decide)
theorem h_12 : alike 4607182418800017408 4611686018427387904 = false := by
  unfold alike
  rw [order_lt (by decide) (by decide), order_eq (by decide), order_eq (by decide)]; rfl
theorem h_next1 : nxw 4607182418800017408 = 4607182418800017409 := by
  unfold nxw
  rw [if_neg (by decide), nx_pos (by decide) (.inl (by decide)) (by decide)]; rfl
theorem h_next0 : nxw 0 = 1 := by
  unfold nxw
  rw [if_neg (by decide), nx_pos (by decide) (.inl (by decide)) (by decide)]; rfl
end Go.Proofs.YtnmjnjhijcnbcaaDoor.H0

/-
  Good and head of layer 3's laws.
-/
namespace Go.Proofs.YtnmjnjhijcnbcaaDoor.H1
open Ieee Go Go.RowKit Go.Proofs.YtnmjnjhijcnbcaaDoor Go.Proofs.YtnmjnjhijcnbcaaDoor.Ow Go.Proofs.YtnmjnjhijcnbcaaDoor.Pl Go.Proofs.YtnmjnjhijcnbcaaDoor.Dp Go.Proofs.YtnmjnjhijcnbcaaDoor.Dt Go.Proofs.YtnmjnjhijcnbcaaDoor.Gp Go.Proofs.YtnmjnjhijcnbcaaDoor.Gq Go.Proofs.YtnmjnjhijcnbcaaDoor.G1 Go.Proofs.YtnmjnjhijcnbcaaDoor.G3 Go.Proofs.YtnmjnjhijcnbcaaDoor.G5 Go.Proofs.YtnmjnjhijcnbcaaDoor.E7 Go.Proofs.YtnmjnjhijcnbcaaDoor.F1 Go.Proofs.YtnmjnjhijcnbcaaDoor.H0

def goodB (n : Bool) (l : List Int) (e : Int) : Bool := decide (l.length ≤ 20) && (rightB n l e && (decide (-3000 < e) && decide (e < 3000)))
theorem good_num {n : Bool} {l : List Int} {e : Int} (h : goodB n l e = true) : ∃ v : Int, n = dneg v ∧ l = digs (dm v) ∧ e = de v ∧ (digs (dm v)).length ≤ 20 ∧ Wd v 3000 3480 := by
  unfold goodB at h
  simp only [Bool.and_eq_true, decide_eq_true_eq] at h
  obtain ⟨h1, h2, h3, h4⟩ := h
  obtain ⟨_, v, e1, e2, e3, _, _⟩ := right_num h2
  refine ⟨v, e1, e2, e3, by rw [← e2]; exact h1, .inr (by omega), ?_⟩
  have hx : dm v < 2 ^ (24 * 20) := by
    have := digs_len_le.1 (show (digs (dm v)).length ≤ 20 by rw [← e2]; exact h1)
    rwa [show (16777216 : Nat) = 2 ^ 24 from rfl, ← Nat.pow_mul] at this
  have := wd_sc (dneg v) (b := 24 * 20) (e := de v) (L := 3000) (U := 3480) hx (by omega) (by omega) (by unfold K; omega)
  rw [sc_self] at this
  exact this.up
theorem good_calls (n : Bool) (A : Option Addr) (c : Nat) (l : List Int) (e : Int) (w : World) (h : Rd w A l) :
    Calls Tryd.prog 46 #[.agg #[.bool n, .slice A l.length c, .int .i64 e]] w (Tells w (.bool (goodB n l e))) := by
  have RT := Ho.mk (fun (W : World) (g : Bel w W) => F6.rRightRow (c := c) n l e (h.bel g) (b := rightB n l e) rfl)
  unfold goodB
  clear h
  have KB := Ho.mk (Blk.new w [.bool n, .slice A l.length c, .int .i64 e] 24)
  by_cases h1 : l.length ≤ 20
  · have h1' : (l.length : Int) ≤ 20 := by omega
    rw [decide_eq_true h1, Bool.true_and]
    generalize rightB n l e = rb at *
    cases rb
    · go_enter Tryd.func46, Tryd.ntmps46
      go_wp2_with (go_at_call 17; (with_reducible refine (RT.out _ ((Bel.refl w).alloc _)).mono ?_); rintro _ w2 ⟨rfl, hb⟩; have HB := Ho.mk (((Bel.refl w).alloc _).trans hb); clear hb)
      go_ret
      exact ⟨rfl, HB.out⟩
    · by_cases h3 : -3000 < e
      · by_cases h4 : e < 3000
        all_goals
          go_enter Tryd.func46, Tryd.ntmps46
          go_wp2_with (go_at_call 17; (with_reducible refine (RT.out _ ((Bel.refl w).alloc _)).mono ?_); rintro _ w2 ⟨rfl, hb⟩; have HB := Ho.mk (((Bel.refl w).alloc _).trans hb); have KB2 := Ho.mk (KB.out.bel hb); have y2 := KB2.out.cell (i := 2) rfl; clear hb)
          go_ret
          exact ⟨by simp [h3, h4], HB.out⟩
      · rw [decide_eq_false h3]
        go_enter Tryd.func46, Tryd.ntmps46
        go_wp2_with (go_at_call 17; (with_reducible refine (RT.out _ ((Bel.refl w).alloc _)).mono ?_); rintro _ w2 ⟨rfl, hb⟩; have HB := Ho.mk (((Bel.refl w).alloc _).trans hb); have KB2 := Ho.mk (KB.out.bel hb); have y2 := KB2.out.cell (i := 2) rfl; clear hb)
        go_ret
        exact ⟨rfl, HB.out⟩
  · have h1' : ¬ (l.length : Int) ≤ 20 := by omega
    rw [decide_eq_false h1, Bool.false_and]
    go_enter Tryd.func46, Tryd.ntmps46
    go_wp2
    go_ret
    exact ⟨rfl, (Bel.refl w).alloc _⟩
end Go.Proofs.YtnmjnjhijcnbcaaDoor.H1

/-
  The head of layer 3's laws.
-/
namespace Go.Proofs.YtnmjnjhijcnbcaaDoor.H2
open Ieee Go Go.RowKit Go.Proofs.YtnmjnjhijcnbcaaDoor Go.Proofs.YtnmjnjhijcnbcaaDoor.Ow Go.Proofs.YtnmjnjhijcnbcaaDoor.Pl Go.Proofs.YtnmjnjhijcnbcaaDoor.Dp Go.Proofs.YtnmjnjhijcnbcaaDoor.Dt Go.Proofs.YtnmjnjhijcnbcaaDoor.Gp Go.Proofs.YtnmjnjhijcnbcaaDoor.Gq Go.Proofs.YtnmjnjhijcnbcaaDoor.G1 Go.Proofs.YtnmjnjhijcnbcaaDoor.G3 Go.Proofs.YtnmjnjhijcnbcaaDoor.G4 Go.Proofs.YtnmjnjhijcnbcaaDoor.G5 Go.Proofs.YtnmjnjhijcnbcaaDoor.G7 Go.Proofs.YtnmjnjhijcnbcaaDoor.F0 Go.Proofs.YtnmjnjhijcnbcaaDoor.F1 Go.Proofs.YtnmjnjhijcnbcaaDoor.H0

theorem nearLit (W : World) (B : Option Addr) (d : Nat) (n : Bool) (x : Nat) (xi e : Int) (k : Rd W B [xi]) (hd : 1 ≤ d) (hxi : (x : Int) = xi) (hx : x % 2 = 1) (hx2 : x < 16777216) (h1 : -2000 ≤ e) (h2 : e ≤ 1900) {r : Nat} (hr : nw (sc n x e) = r) :
    Calls Tryd.prog 47 #[.agg #[.bool n, .slice B 1 d, .int .i64 e]] W (Tells W (.float .f64 r)) := by
  obtain ⟨D, q1, q2, q3⟩ := litDv (n := n) (L := 2000) (U := 2000) k hxi hx hx2 (by omega) (by omega) (by omega) hd
  have := near_calls D (by omega) (by omega)
  rw [q1, q2, q3, hr] at this
  exact this
set_option maxRecDepth 100000 in
set_option maxHeartbeats 4000000 in
theorem head_calls (w : World) (T : Tab w) : Calls Tryd.prog 39 #[] w (Tells w (.bool true)) := by
  have O1 := Ho.mk (fun (W : World) (g : Bel w W) => ofD (b := 4604930618986332160) (by decide) W (T.bel g) (v := fv 4604930618986332160) (ok := true) (by rw [if_pos (by decide)]) (by decide))
  have O2 := Ho.mk (fun (W : World) (g : Bel w W) => ofD (b := 13815242216921733530) (by decide) W (T.bel g) (v := fv 13815242216921733530) (ok := true) (by rw [if_pos (by decide)]) (by decide))
  have O3 := Ho.mk (fun (W : World) (g : Bel w W) => ofD (b := infR) (by decide) W (T.bel g) (v := 0) (ok := false) (by rw [if_neg (by decide)]) (by decide))
  have O4 := Ho.mk (fun (W : World) (g : Bel w W) => ofD (b := 9221120237041090561) (by decide) W (T.bel g) (v := 0) (ok := false) (by rw [if_neg (by decide)]) (by decide))
  have ha := Ho.mk H0.h_a
  have hb := Ho.mk H0.h_b
  have c1 : (FloatKind.f64.format.order (nw (fv 4604930618986332160)) 4604930618986332160 == some .eq) = true := near_back (by decide) (by decide)
  have c2 : (FloatKind.f64.format.order (nw (fv 13815242216921733530)) 13815242216921733530 == some .eq) = true := near_back (by decide) (by decide)
  have c3 : (FloatKind.f64.format.order infR infR == some .eq) = true := by rw [order_eq (by decide)]; rfl
  have c4 : (FloatKind.f64.format.order (nw (sc true 1 (-1075))) 0 == some .eq) = true := by
    rw [ord_eq (nw_facts _).1 (by decide) (by rw [h_zero.2]; decide) (by decide), h_zero.1, V_0]; rfl
  have c5 : (FloatKind.f64.format.order 1 1 == some .eq) = true := by rw [order_eq (by decide)]; rfl
  have c6 : (FloatKind.f64.format.order 4607182418800017409 4607182418800017409 == some .eq) = true := by rw [order_eq (by decide)]; rfl
  have L1 := Ho.mk (fun (W : World) (B : Option Addr) (d : Nat) (k : Rd W B [1]) (hd : 1 ≤ d) => nearLit W B d false 1 1 1024 k hd rfl (by decide) (by decide) (by decide) (by decide) h_inf)
  have L2 := Ho.mk (fun (W : World) (B : Option Addr) (d : Nat) (k : Rd W B [1]) (hd : 1 ≤ d) => nearLit W B d true 1 1 (-1075) k hd rfl (by decide) (by decide) (by decide) (by decide) rfl)
  have L3 := Ho.mk (fun (W : World) (B : Option Addr) (d : Nat) (k : Rd W B [3]) (hd : 1 ≤ d) => nearLit W B d false 3 3 (-1076) k hd rfl (by decide) (by decide) (by decide) (by decide) h_one)
  generalize nw (sc true 1 (-1075)) = nz at *
  have hva := Ho.mk (rfl : nw (fv 4604930618986332160) = nw (fv 4604930618986332160))
  generalize hna : nw (fv 4604930618986332160) = na at *
  generalize hnb : nw (fv 13815242216921733530) = nb at *
  have HA := Ho.mk hna
  have HBn := Ho.mk hnb
  clear hna hnb hva
  generalize fv 4604930618986332160 = va at *
  generalize fv 13815242216921733530 = vb at *
  have IN := Ho.mk (inf_calls 1)
  have NN := Ho.mk nan_calls
  have SN := Ho.mk (fun W => same_calls (a := 9221120237041090561) (b := 9221120237041090561) (by decide) (by decide) W)
  have S12 := Ho.mk (fun W => same_calls (a := 4607182418800017408) (b := 4611686018427387904) (by decide) (by decide) W)
  rw [h_nan] at SN
  rw [h_12] at S12
  have X1 := Ho.mk (fun W => next_calls (b := 4607182418800017408) (by decide) W)
  have X0 := Ho.mk (fun W => next_calls (b := 0) (by decide) W)
  rw [h_next1] at X1
  rw [h_next0] at X0
  have rf := fun w => run_from 1 w
  go_enter Tryd.func39, Tryd.ntmps39
  go_wp2_with fail
  (with_reducible refine (O1.out _ (Bel.refl w)).mono ?_); rintro _ w1 ⟨A1, k1, rfl, d1, b1⟩
  have D1 := Ho.mk d1
  have B1 := Ho.mk b1
  clear d1 b1
  have KA1 := Ho.mk (Blk.new w1 [.bool (dneg va), .slice A1 (digs (dm va)).length k1, .int .i64 (de va)] 24)
  have BA1 := Ho.mk (B1.out.alloc (.cells #[.bool (dneg va), .slice A1 (digs (dm va)).length k1, .int .i64 (de va)] 24))
  go_wp2_with fail
  (with_reducible refine (O2.out _ BA1.out).mono ?_); rintro _ w2 ⟨A2, k2, rfl, d2, b2⟩
  have D2 := Ho.mk d2
  have E2 := Ho.mk (((Bel.refl w1).alloc (.cells #[.bool (dneg va), .slice A1 (digs (dm va)).length k1, .int .i64 (de va)] 24)).trans b2)
  have KA2 := Ho.mk (KA1.out.bel b2)
  have B2 := Ho.mk (BA1.out.trans b2)
  have KB2 := Ho.mk (Blk.new w2 [.bool (dneg vb), .slice A2 (digs (dm vb)).length k2, .int .i64 (de vb)] 24)
  have BB2 := Ho.mk (B2.out.alloc (.cells #[.bool (dneg vb), .slice A2 (digs (dm vb)).length k2, .int .i64 (de vb)] 24))
  clear d2 b2
  go_wp2_with fail
  (with_reducible refine (IN.out _).mono ?_); rintro _ _ ⟨rfl, rfl⟩
  go_wp2_with fail
  (with_reducible refine (O3.out _ BB2.out).mono ?_); rintro _ w3 ⟨A3, k3, rfl, d3, b3⟩
  have b3' := ((Bel.refl w2).alloc (.cells #[.bool (dneg vb), .slice A2 (digs (dm vb)).length k2, .int .i64 (de vb)] 24)).trans b3
  have KB3 := Ho.mk (KB2.out.bel b3)
  have KA3 := Ho.mk (KA2.out.bel b3')
  have E3 := Ho.mk (E2.out.trans b3')
  have F3 := Ho.mk b3'
  have B3 := Ho.mk (B2.out.trans b3')
  clear d3 b3 b3'
  go_wp2_with fail
  (with_reducible refine (NN.out _).mono ?_); rintro _ _ ⟨rfl, rfl⟩
  go_wp2_with fail
  (with_reducible refine (O4.out _ (B3.out.alloc _)).mono ?_); rintro _ w4 ⟨A4, k4, rfl, d4, b4⟩
  have b4' := ((Bel.refl w3).alloc _).trans b4
  have KB4 := Ho.mk (KB3.out.bel b4')
  have KA4 := Ho.mk (KA3.out.bel b4')
  have E4 := Ho.mk (E3.out.trans b4')
  have F4 := Ho.mk (F3.out.trans b4')
  have B4 := Ho.mk (B3.out.trans b4')
  clear d4 b4 b4'
  have ya0 := fun o => (KA4.out.bel ((Bel.refl w4).alloc o)).cell (i := 0) rfl
  have ya1 := fun o => (KA4.out.bel ((Bel.refl w4).alloc o)).cell (i := 1) rfl
  have ya2 := fun o => (KA4.out.bel ((Bel.refl w4).alloc o)).cell (i := 2) rfl
  go_wp2_with fail
  have R5 := F0.litRd (w4.alloc (.cells #[.bool (dneg 0), .slice A4 (digs (dm 0)).length k4, .int .i64 (de 0)] 24)) 3
  rw [World.size_alloc] at R5
  (with_reducible refine (sameLit1 (D1.out.bel ((E4.out.alloc _).alloc _)) (n := false) (x := 3) (e := -2) R5 rfl (by decide) (by decide) (by unfold K; decide) ha.out).mono ?_); rintro _ w5 ⟨rfl, b5⟩
  have b5' := (((Bel.refl w4).alloc _).alloc _).trans b5
  have KA5 := Ho.mk (KA4.out.bel b5')
  have KB5 := Ho.mk (KB4.out.bel b5')
  have E5 := Ho.mk (E4.out.trans b5')
  have F5 := Ho.mk (F4.out.trans b5')
  have B5 := Ho.mk (B4.out.trans b5')
  clear b5 b5'
  clear R5 ya0 ya1 ya2
  have yb0 := KB5.out.cell (i := 0) rfl
  have yb1 := KB5.out.cell (i := 1) rfl
  have yb2 := KB5.out.cell (i := 2) rfl
  go_wp2_with fail
  (with_reducible refine (rSign (D2.out.bel F5.out) hb.out).mono ?_); rintro _ w6 ⟨rfl, b6⟩
  have b6' := (Bel.refl w5).trans b6
  have KA6 := Ho.mk (KA5.out.bel b6')
  have KB6 := Ho.mk (KB5.out.bel b6')
  have E6 := Ho.mk (E5.out.trans b6')
  have F6 := Ho.mk (F5.out.trans b6')
  have B6 := Ho.mk (B5.out.trans b6')
  clear b6 b6'
  clear yb0 yb1 yb2
  have ya0 := KA6.out.cell (i := 0) rfl
  have ya1 := KA6.out.cell (i := 1) rfl
  have ya2 := KA6.out.cell (i := 2) rfl
  go_wp2_with fail
  (with_reducible refine (near_calls (D1.out.bel E6.out) (by omega) (by omega)).mono ?_); rw [HA.out]; rintro _ w7 ⟨rfl, b7⟩
  have b7' := (Bel.refl w6).trans b7
  have KA7 := Ho.mk (KA6.out.bel b7')
  have KB7 := Ho.mk (KB6.out.bel b7')
  have E7 := Ho.mk (E6.out.trans b7')
  have F7 := Ho.mk (F6.out.trans b7')
  have B7 := Ho.mk (B6.out.trans b7')
  clear b7 b7'
  clear ya0 ya1 ya2
  have yb0 := KB7.out.cell (i := 0) rfl
  have yb1 := KB7.out.cell (i := 1) rfl
  have yb2 := KB7.out.cell (i := 2) rfl
  go_wp2_with fail
  (with_reducible refine (near_calls (D2.out.bel F7.out) (by omega) (by omega)).mono ?_); rw [HBn.out]; rintro _ w8 ⟨rfl, b8⟩
  have b8' := (Bel.refl w7).trans b8
  have KA8 := Ho.mk (KA7.out.bel b8')
  have KB8 := Ho.mk (KB7.out.bel b8')
  have E8 := Ho.mk (E7.out.trans b8')
  have F8 := Ho.mk (F7.out.trans b8')
  have B8 := Ho.mk (B7.out.trans b8')
  clear b8 b8'
  clear yb0 yb1 yb2
  go_wp2_with fail
  (with_reducible refine (L1.out _ _ _ (F0.litRd w8 1) (Nat.le_refl _)).mono ?_); rintro _ w9 ⟨rfl, b9⟩
  have b9' := ((Bel.refl w8).alloc _).trans b9
  have KA9 := Ho.mk (KA8.out.bel b9')
  have KB9 := Ho.mk (KB8.out.bel b9')
  have E9 := Ho.mk (E8.out.trans b9')
  have F9 := Ho.mk (F8.out.trans b9')
  have B9 := Ho.mk (B8.out.trans b9')
  clear b9 b9'
  go_wp2_with fail
  (with_reducible refine (IN.out _).mono ?_); rintro _ _ ⟨rfl, rfl⟩
  go_wp2_with fail
  (with_reducible refine (L2.out _ _ _ (F0.litRd w9 1) (Nat.le_refl _)).mono ?_); rintro _ w10 ⟨rfl, b10⟩
  have b10' := ((Bel.refl w9).alloc _).trans b10
  have KA10 := Ho.mk (KA9.out.bel b10')
  have KB10 := Ho.mk (KB9.out.bel b10')
  have E10 := Ho.mk (E9.out.trans b10')
  have F10 := Ho.mk (F9.out.trans b10')
  have B10 := Ho.mk (B9.out.trans b10')
  clear b10 b10'
  go_wp2_with fail
  (with_reducible refine (L3.out _ _ _ (F0.litRd w10 3) (Nat.le_refl _)).mono ?_); rintro _ w11 ⟨rfl, b11⟩
  have b11' := ((Bel.refl w10).alloc _).trans b11
  have KA11 := Ho.mk (KA10.out.bel b11')
  have KB11 := Ho.mk (KB10.out.bel b11')
  have E11 := Ho.mk (E10.out.trans b11')
  have F11 := Ho.mk (F10.out.trans b11')
  have B11 := Ho.mk (B10.out.trans b11')
  clear b11 b11'
  go_wp2_with fail
  (with_reducible refine (NN.out _).mono ?_); rintro _ _ ⟨rfl, rfl⟩
  go_wp2_with fail
  (with_reducible refine (NN.out _).mono ?_); rintro _ _ ⟨rfl, rfl⟩
  go_wp2_with fail
  (with_reducible refine (SN.out _).mono ?_); rintro _ w12 ⟨rfl, b12⟩
  have b12' := (Bel.refl w11).trans b12
  have KA12 := Ho.mk (KA11.out.bel b12')
  have KB12 := Ho.mk (KB11.out.bel b12')
  have E12 := Ho.mk (E11.out.trans b12')
  have F12 := Ho.mk (F11.out.trans b12')
  have B12 := Ho.mk (B11.out.trans b12')
  clear b12 b12'
  go_wp2_with fail
  (with_reducible refine (S12.out _).mono ?_); rintro _ w13 ⟨rfl, b13⟩
  have b13' := (Bel.refl w12).trans b13
  have KA13 := Ho.mk (KA12.out.bel b13')
  have KB13 := Ho.mk (KB12.out.bel b13')
  have E13 := Ho.mk (E12.out.trans b13')
  have F13 := Ho.mk (F12.out.trans b13')
  have B13 := Ho.mk (B12.out.trans b13')
  clear b13 b13'
  go_wp2_with fail
  (with_reducible refine (X1.out _).mono ?_); rintro _ _ ⟨rfl, rfl⟩
  go_wp2_with fail
  (with_reducible refine (X0.out _).mono ?_); rintro _ _ ⟨rfl, rfl⟩
  go_wp2
  go_ret
  exact ⟨rfl, B13.out⟩
end Go.Proofs.YtnmjnjhijcnbcaaDoor.H2
