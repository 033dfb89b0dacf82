/-
  The walk of the document's answer to layer 2: Add.
-/
import Derived.Test.YtnmjnjhijcnbcaaDoorD5
import Derived.Deep.RegionHeld3
set_option linter.unusedVariables false
set_option linter.unusedSimpArgs false
namespace Go.Proofs.YtnmjnjhijcnbcaaDoor.D6
open Go.RowKit Go.Proofs.YtnmjnjhijcnbcaaDoor Go.Proofs.YtnmjnjhijcnbcaaDoor.Ow Go.Proofs.YtnmjnjhijcnbcaaDoor.Pl Go.Proofs.YtnmjnjhijcnbcaaDoor.N2 Go.Proofs.YtnmjnjhijcnbcaaDoor.Dp Go.Proofs.YtnmjnjhijcnbcaaDoor.D1 Go.Proofs.YtnmjnjhijcnbcaaDoor.D2 Go.Proofs.YtnmjnjhijcnbcaaDoor.D3

set_option maxHeartbeats 1000000 in
/-- With 0 in front. -/
theorem addZ_calls (A0 A1 : Option Addr) (c0 c1 : Nat) (v : Int) (w : World) (h1 : Rd w A1 (digs (dm v))) (hc1 : (digs (dm v)).length ≤ c1) :
    Calls Tryd.prog 21 #[.agg #[.bool false, .slice A0 0 c0, .int .i64 0], .agg #[.bool (dneg v), .slice A1 (digs (dm v)).length c1, .int .i64 (de v)]] w (Gives w v) := by
  have H1 := Ho.mk h1
  have HC := Ho.mk hc1
  clear h1 hc1
  go_enter Tryd.func21, Tryd.ntmps21
  go_wp2
  exact bodyPost_ret (v := .agg #[.bool (dneg v), .slice A1 (digs (dm v)).length c1, .int .i64 (de v)]) (by simp [results, Tryd.f21, go_sem]) rfl
    ⟨A1, c1, rfl, HC.out, H1.out.bel ((((Bel.refl w).alloc _).alloc _).alloc _), (((Bel.refl w).alloc _).alloc _).alloc _⟩
set_option maxHeartbeats 1000000 in
/-- With 0 behind. -/
theorem addZ2_calls (A0 A1 : Option Addr) (c0 c1 : Nat) (v : Int) (w : World) (h1 : Rd w A0 (digs (dm v))) (hc1 : (digs (dm v)).length ≤ c0) (hv : v ≠ 0) :
    Calls Tryd.prog 21 #[.agg #[.bool (dneg v), .slice A0 (digs (dm v)).length c0, .int .i64 (de v)], .agg #[.bool false, .slice A1 0 c1, .int .i64 0]] w (Gives w v) := by
  have H1 := Ho.mk h1
  have HC := Ho.mk hc1
  have hb : (((digs (dm v)).length : Int) == 0) = false := beq_eq_false_iff_ne.mpr (fun c => hv (dm_zero.1 (digs_nil.1 (List.length_eq_zero_iff.1 (Int.ofNat.inj c)))))
  clear h1 hc1 hv
  go_enter Tryd.func21, Tryd.ntmps21
  go_wp2
  exact bodyPost_ret (v := .agg #[.bool (dneg v), .slice A0 (digs (dm v)).length c0, .int .i64 (de v)]) (by simp [results, Tryd.f21, go_sem]) rfl
    ⟨A0, c0, rfl, HC.out, H1.out.bel ((((Bel.refl w).alloc _).alloc _).alloc _), (((Bel.refl w).alloc _).alloc _).alloc _⟩
theorem len_p2 (k : Nat) : (digs (2 ^ k)).length ≤ k / 24 + 1 := by
  apply digs_len_le.2
  rw [show (16777216 : Nat) = 2 ^ 24 from rfl, ← Nat.pow_mul]
  exact Nat.pow_lt_pow_right (by decide) (by omega)
theorem len_add {x y a b : Nat} (h : (digs x).length ≤ a) (k : (digs y).length ≤ b) : (digs (x + y)).length ≤ a + b + 1 := by
  apply digs_len_le.2
  have h1 := Nat.lt_of_lt_of_le (digs_len_le.1 h) (pow_le_nat (Nat.le_add_right a b))
  have h2 := Nat.lt_of_lt_of_le (digs_len_le.1 k) (pow_le_nat (Nat.le_add_left b a))
  rw [Nat.pow_succ]
  omega
set_option maxHeartbeats 1000000 in
theorem addS_calls (A0 A1 : Option Addr) (c0 c1 x y : Nat) (n : Bool) (e0 e1 : Int) (w : World) (h0 : Rd w A0 (digs x)) (h1 : Rd w A1 (digs y)) (hc0 : (digs x).length ≤ c0) (hc1 : (digs y).length ≤ c1) (hx : x ≠ 0) (hy : y ≠ 0)
    (hl0 : (digs x).length ≤ 1000) (hl1 : (digs y).length ≤ 1000) (he : e0 ≤ e1) (b0 : -20000 ≤ e0) (b1 : e1 ≤ 20000) :
    Calls Tryd.prog 21 #[.agg #[.bool n, .slice A0 (digs x).length c0, .int .i64 e0], .agg #[.bool n, .slice A1 (digs y).length c1, .int .i64 e1]] w (Gives w (sc n x e0 + sc n y e1)) := by
  have hb0 : (((digs x).length : Int) == 0) = false := beq_eq_false_iff_ne.mpr (fun c => hx (digs_nil.1 (List.length_eq_zero_iff.1 (Int.ofNat.inj c))))
  have hb1 : (((digs y).length : Int) == 0) = false := beq_eq_false_iff_ne.mpr (fun c => hy (digs_nil.1 (List.length_eq_zero_iff.1 (Int.ofNat.inj c))))
  have H0 := Ho.mk h0
  have H1 := Ho.mk h1
  clear h0 h1
  have nn := D4.ne2 w.heap.size
  have nn2 : ¬ (w.heap.size + 1 + 1 = w.heap.size) := fun q => D4.ne2 w.heap.size q.symm
  go_enter Tryd.func21, Tryd.ntmps21
  go_wp2_with fail
  obtain ⟨k, hk⟩ := Int.eq_ofNat_of_zero_le (show 0 ≤ e1 - e0 by omega)
  have hk1 : e1 = e0 + k := by omega
  have HV : Ho (sc n (x + y * 2 ^ k) e0 = sc n x e0 + sc n y e1) := ⟨by rw [hk1, sc_add, sc_down _ _ _ _ (by unfold K; omega)]⟩
  have hk5 : k ≤ 40000 := by omega
  have KA := Ho.mk (((Blk.new w [.bool n, .slice A0 (digs x).length c0, .int .i64 e0] 24).old (.cells #[.bool n, .slice A1 (digs y).length c1, .int .i64 e1] 24)).old (.cells #[.bool false, .slice none 0 0, .int .i64 0] 24))
  have KC := Ho.mk ((Blk.new (w.alloc (.cells #[.bool n, .slice A0 (digs x).length c0, .int .i64 e0] 24)) [.bool n, .slice A1 (digs y).length c1, .int .i64 e1] 24).old (.cells #[.bool false, .slice none 0 0, .int .i64 0] 24))
  have KZ := Ho.mk (Blk.new ((w.alloc (.cells #[.bool n, .slice A0 (digs x).length c0, .int .i64 e0] 24)).alloc (.cells #[.bool n, .slice A1 (digs y).length c1, .int .i64 e1] 24)) [.bool false, .slice none 0 0, .int .i64 0] 24)
  have HB := Ho.mk ((((Bel.refl w).alloc (.cells #[.bool n, .slice A0 (digs x).length c0, .int .i64 e0] 24)).alloc (.cells #[.bool n, .slice A1 (digs y).length c1, .int .i64 e1] 24)).alloc (.cells #[.bool false, .slice none 0 0, .int .i64 0] 24))
  rw [World.size_alloc] at KC
  rw [World.size_alloc, World.size_alloc] at KZ
  have hZ : ((w.alloc (.cells #[.bool n, .slice A0 (digs x).length c0, .int .i64 e0] 24)).alloc (.cells #[.bool n, .slice A1 (digs y).length c1, .int .i64 e1] 24)).alloc (.cells #[.bool false, .slice none 0 0, .int .i64 0] 24) = ((w.alloc (.cells #[.bool n, .slice A0 (digs x).length c0, .int .i64 e0] 24)).alloc (.cells #[.bool n, .slice A1 (digs y).length c1, .int .i64 e1] 24)).alloc (.cells #[.bool false, .slice none 0 0, .int .i64 0] 24) := rfl
  generalize ((w.alloc (.cells #[.bool n, .slice A0 (digs x).length c0, .int .i64 e0] 24)).alloc (.cells #[.bool n, .slice A1 (digs y).length c1, .int .i64 e1] 24)).alloc (.cells #[.bool false, .slice none 0 0, .int .i64 0] 24) = w0 at *
  clear hZ
  have S1 := Ho.mk (R7.shl_calls A0 c0 x 0 0 w0 (H0.out.bel HB.out) hc0 (by omega) rfl (by omega))
  rw [Nat.pow_zero, Nat.mul_one] at S1
  (with_reducible refine (S1.out).mono ?_); rintro e w1 ⟨A2, c2, rfl, hc2, hr2, hb2⟩
  have KA1 := Ho.mk (KA.out.bel hb2)
  have KC1 := Ho.mk (KC.out.bel hb2)
  have KZ1 := Ho.mk (KZ.out.bel hb2)
  have HB1 := Ho.mk (HB.out.trans hb2)
  have HR2 := Ho.mk hr2
  have x1 := KC1.out.cell (i := 1) rfl
  have x2 := KC1.out.cell (i := 2) rfl
  clear hb2 hr2 KA KC KZ HB S1
  have hl2 : (digs (y * 2 ^ k)).length ≤ 2700 := by
    have := D4.len_mul (x := y) (y := 2 ^ k) hl1 (len_p2 k)
    omega
  have hl3 : (digs (x + y * 2 ^ k)).length ≤ 3800 := by
    have := len_add hl0 hl2
    omega
  have S2 := Ho.mk (R7.shl_calls A1 c1 y k (k : Int) w1 (H1.out.bel HB1.out) hc1 (by omega) (Int.toNat_natCast k).symm (by omega))
  have S3 := Ho.mk (fun (A : Option Addr) (c : Nat) (W : World) (g0 : Rd W A2 (digs x)) (g1 : Rd W A (digs (y * 2 ^ k))) => R4.add_calls A2 A c2 c x (y * 2 ^ k) W g0 g1 (by omega) (by omega))
  have S4 := Ho.mk (fun (A : Option Addr) (c : Nat) (W : World) (g : Rd W A (digs (x + y * 2 ^ k))) (hc : (digs (x + y * 2 ^ k)).length ≤ c) => make_calls A c (x + y * 2 ^ k) n e0 W g hc (by omega) (by omega) (by omega))
  rw [HV.out] at S4
  have hkk : e1 - e0 = (k : Int) := hk
  generalize sc n x e0 + sc n y e1 = r at *
  clear hk hk1 hl2 hl3 HV
  generalize x + y * 2 ^ k = xy at *
  generalize y * 2 ^ k = yk at *
  go_wp2_with fail
  (with_reducible refine (S2.out).mono ?_); rintro e w2 ⟨A3, c3, rfl, hc3, hr3, hb3⟩
  have KA2 := Ho.mk (KA1.out.bel hb3)
  have KC2 := Ho.mk (KC1.out.bel hb3)
  have KZ2 := Ho.mk (KZ1.out.bel hb3)
  have HB2 := Ho.mk (HB1.out.trans hb3)
  have HR3 := Ho.mk hr3
  have HR22 := Ho.mk (HR2.out.bel hb3)
  have u0 := KA2.out.cell (i := 0) rfl
  have u1 := KC2.out.cell (i := 0) rfl
  have hnn : (n == n) = true := by simp
  clear hb3 hr3 KA1 KC1 KZ1 HB1 S2 x1 x2 HR2
  go_wp2_with fail
  clear u1
  go_region_held3 (fun w' => w'.cell? ⟨w.heap.size, 0, none⟩ = some (.bool n))
    (first
      | go_keep
      | (apply Bel.cell (by assumption); assumption))
    (first
      | (go_at_call 58; refine (S3.out _ _ _ (HR22.out.bel (Bel.refl _).drew) (HR3.out.bel (Bel.refl _).drew)).mono ?_; rintro e w3 ⟨A4, c4, rfl, hc4, hr4, hb4⟩)
      | (go_at_call 37; refine (S4.out _ _ _ hr4 hc4).mono ?_; rintro e w4 ⟨A5, c5, rfl, hc5, hr5, hb5⟩
         have KB2 := Ho.mk (KZ2.out.bel ((Bel.refl _).drew.trans (hb4.trans hb5)))
         have HB5 := Ho.mk (HB2.out.trans ((Bel.refl _).drew.trans (hb4.trans hb5)))
         have y0 := KB2.out.cell (i := 0) rfl
         have y1 := KB2.out.cell (i := 1) rfl
         have y2 := KB2.out.cell (i := 2) rfl
         have z0 := KB2.out.free 0
         have z1 := KB2.out.free 1
         have z2 := KB2.out.free 2))
  have HR5 := Ho.mk hr5
  clear hr5 hr4 hb4 hb5
  go_wp2
  exact gives_end (fn := Tryd.f21) rfl rfl HB5.out (by omega) KB2.out HR5.out hc5
set_option maxHeartbeats 1000000 in
theorem addS2_calls (A0 A1 : Option Addr) (c0 c1 x y : Nat) (n : Bool) (e0 e1 : Int) (w : World) (h0 : Rd w A0 (digs x)) (h1 : Rd w A1 (digs y)) (hc0 : (digs x).length ≤ c0) (hc1 : (digs y).length ≤ c1) (hx : x ≠ 0) (hy : y ≠ 0)
    (hl0 : (digs x).length ≤ 1000) (hl1 : (digs y).length ≤ 1000) (he : e1 < e0) (b0 : -20000 ≤ e1) (b1 : e0 ≤ 20000) :
    Calls Tryd.prog 21 #[.agg #[.bool n, .slice A0 (digs x).length c0, .int .i64 e0], .agg #[.bool n, .slice A1 (digs y).length c1, .int .i64 e1]] w (Gives w (sc n x e0 + sc n y e1)) := by
  have hb0 : (((digs x).length : Int) == 0) = false := beq_eq_false_iff_ne.mpr (fun c => hx (digs_nil.1 (List.length_eq_zero_iff.1 (Int.ofNat.inj c))))
  have hb1 : (((digs y).length : Int) == 0) = false := beq_eq_false_iff_ne.mpr (fun c => hy (digs_nil.1 (List.length_eq_zero_iff.1 (Int.ofNat.inj c))))
  have H0 := Ho.mk h0
  have H1 := Ho.mk h1
  clear h0 h1
  have nn := D4.ne2 w.heap.size
  have nn2 : ¬ (w.heap.size + 1 + 1 = w.heap.size) := fun q => D4.ne2 w.heap.size q.symm
  go_enter Tryd.func21, Tryd.ntmps21
  go_wp2_with fail
  obtain ⟨k, hk⟩ := Int.eq_ofNat_of_zero_le (show 0 ≤ e0 - e1 by omega)
  have hk1 : e0 = e1 + k := by omega
  have HV : Ho (sc n (x * 2 ^ k + y) e1 = sc n x e0 + sc n y e1) := ⟨by rw [hk1, sc_add, sc_down _ _ _ _ (by unfold K; omega)]⟩
  have hk5 : k ≤ 40000 := by omega
  have KA := Ho.mk (((Blk.new w [.bool n, .slice A0 (digs x).length c0, .int .i64 e0] 24).old (.cells #[.bool n, .slice A1 (digs y).length c1, .int .i64 e1] 24)).old (.cells #[.bool false, .slice none 0 0, .int .i64 0] 24))
  have KC := Ho.mk ((Blk.new (w.alloc (.cells #[.bool n, .slice A0 (digs x).length c0, .int .i64 e0] 24)) [.bool n, .slice A1 (digs y).length c1, .int .i64 e1] 24).old (.cells #[.bool false, .slice none 0 0, .int .i64 0] 24))
  have KZ := Ho.mk (Blk.new ((w.alloc (.cells #[.bool n, .slice A0 (digs x).length c0, .int .i64 e0] 24)).alloc (.cells #[.bool n, .slice A1 (digs y).length c1, .int .i64 e1] 24)) [.bool false, .slice none 0 0, .int .i64 0] 24)
  have HB := Ho.mk ((((Bel.refl w).alloc (.cells #[.bool n, .slice A0 (digs x).length c0, .int .i64 e0] 24)).alloc (.cells #[.bool n, .slice A1 (digs y).length c1, .int .i64 e1] 24)).alloc (.cells #[.bool false, .slice none 0 0, .int .i64 0] 24))
  rw [World.size_alloc] at KC
  rw [World.size_alloc, World.size_alloc] at KZ
  have hZ : ((w.alloc (.cells #[.bool n, .slice A0 (digs x).length c0, .int .i64 e0] 24)).alloc (.cells #[.bool n, .slice A1 (digs y).length c1, .int .i64 e1] 24)).alloc (.cells #[.bool false, .slice none 0 0, .int .i64 0] 24) = ((w.alloc (.cells #[.bool n, .slice A0 (digs x).length c0, .int .i64 e0] 24)).alloc (.cells #[.bool n, .slice A1 (digs y).length c1, .int .i64 e1] 24)).alloc (.cells #[.bool false, .slice none 0 0, .int .i64 0] 24) := rfl
  generalize ((w.alloc (.cells #[.bool n, .slice A0 (digs x).length c0, .int .i64 e0] 24)).alloc (.cells #[.bool n, .slice A1 (digs y).length c1, .int .i64 e1] 24)).alloc (.cells #[.bool false, .slice none 0 0, .int .i64 0] 24) = w0 at *
  clear hZ
  have S1 := Ho.mk (R7.shl_calls A0 c0 x k (k : Int) w0 (H0.out.bel HB.out) hc0 (by omega) (Int.toNat_natCast k).symm (by omega))
  have hkk : e0 - e1 = (k : Int) := hk
  rw [hkk]
  clear hk
  (with_reducible refine (S1.out).mono ?_); rintro e w1 ⟨A2, c2, rfl, hc2, hr2, hb2⟩
  have KA1 := Ho.mk (KA.out.bel hb2)
  have KC1 := Ho.mk (KC.out.bel hb2)
  have KZ1 := Ho.mk (KZ.out.bel hb2)
  have HB1 := Ho.mk (HB.out.trans hb2)
  have HR2 := Ho.mk hr2
  have x1 := KC1.out.cell (i := 1) rfl
  have x2 := KC1.out.cell (i := 2) rfl
  clear hb2 hr2 KA KC KZ HB S1
  have hl2 : (digs (x * 2 ^ k)).length ≤ 2700 := by
    have := D4.len_mul (x := x) (y := 2 ^ k) hl0 (len_p2 k)
    omega
  have hl3 : (digs (x * 2 ^ k + y)).length ≤ 3800 := by
    have := len_add hl2 hl1
    omega
  have S2 := Ho.mk (R7.shl_calls A1 c1 y 0 0 w1 (H1.out.bel HB1.out) hc1 (by omega) rfl (by omega))
  rw [Nat.pow_zero, Nat.mul_one] at S2
  have S3 := Ho.mk (fun (A : Option Addr) (c : Nat) (W : World) (g0 : Rd W A2 (digs (x * 2 ^ k))) (g1 : Rd W A (digs y)) => R4.add_calls A2 A c2 c (x * 2 ^ k) y W g0 g1 (by omega) (by omega))
  have S4 := Ho.mk (fun (A : Option Addr) (c : Nat) (W : World) (g : Rd W A (digs (x * 2 ^ k + y))) (hc : (digs (x * 2 ^ k + y)).length ≤ c) => make_calls A c (x * 2 ^ k + y) n e1 W g hc (by omega) (by omega) (by omega))
  rw [HV.out] at S4
  generalize sc n x e0 + sc n y e1 = r at *
  clear hk1 hl2 hl3 HV
  generalize x * 2 ^ k + y = xy at *
  generalize x * 2 ^ k = yk at *
  go_wp2_with fail
  (with_reducible refine (S2.out).mono ?_); rintro e w2 ⟨A3, c3, rfl, hc3, hr3, hb3⟩
  have KA2 := Ho.mk (KA1.out.bel hb3)
  have KC2 := Ho.mk (KC1.out.bel hb3)
  have KZ2 := Ho.mk (KZ1.out.bel hb3)
  have HB2 := Ho.mk (HB1.out.trans hb3)
  have HR3 := Ho.mk hr3
  have HR22 := Ho.mk (HR2.out.bel hb3)
  have u0 := KA2.out.cell (i := 0) rfl
  have u1 := KC2.out.cell (i := 0) rfl
  have hnn : (n == n) = true := by simp
  clear hb3 hr3 KA1 KC1 KZ1 HB1 S2 x1 x2 HR2
  go_wp2_with fail
  clear u1
  go_region_held3 (fun w' => w'.cell? ⟨w.heap.size, 0, none⟩ = some (.bool n))
    (first
      | go_keep
      | (apply Bel.cell (by assumption); assumption))
    (first
      | (go_at_call 58; refine (S3.out _ _ _ (HR22.out.bel (Bel.refl _).drew) (HR3.out.bel (Bel.refl _).drew)).mono ?_; rintro e w3 ⟨A4, c4, rfl, hc4, hr4, hb4⟩)
      | (go_at_call 37; refine (S4.out _ _ _ hr4 hc4).mono ?_; rintro e w4 ⟨A5, c5, rfl, hc5, hr5, hb5⟩
         have KB2 := Ho.mk (KZ2.out.bel ((Bel.refl _).drew.trans (hb4.trans hb5)))
         have HB5 := Ho.mk (HB2.out.trans ((Bel.refl _).drew.trans (hb4.trans hb5)))
         have y0 := KB2.out.cell (i := 0) rfl
         have y1 := KB2.out.cell (i := 1) rfl
         have y2 := KB2.out.cell (i := 2) rfl
         have z0 := KB2.out.free 0
         have z1 := KB2.out.free 1
         have z2 := KB2.out.free 2))
  have HR5 := Ho.mk hr5
  clear hr5 hr4 hb4 hb5
  go_wp2
  exact gives_end (fn := Tryd.f21) rfl rfl HB5.out (by omega) KB2.out HR5.out hc5
set_option maxHeartbeats 1000000 in
theorem addU_calls (A0 A1 : Option Addr) (c0 c1 x y : Nat) (n : Bool) (e0 e1 : Int) (w : World) (h0 : Rd w A0 (digs x)) (h1 : Rd w A1 (digs y)) (hc0 : (digs x).length ≤ c0) (hc1 : (digs y).length ≤ c1) (hx : x ≠ 0) (hy : y ≠ 0)
    (hl0 : (digs x).length ≤ 1000) (hl1 : (digs y).length ≤ 1000) (he : e0 ≤ e1) (b0 : -20000 ≤ e0) (b1 : e1 ≤ 20000) (hge : ∀ k : Nat, e1 = e0 + k → y * 2 ^ k ≤ x) :
    Calls Tryd.prog 21 #[.agg #[.bool n, .slice A0 (digs x).length c0, .int .i64 e0], .agg #[.bool (!n), .slice A1 (digs y).length c1, .int .i64 e1]] w (Gives w (sc n x e0 + sc (!n) y e1)) := by
  have hb0 : (((digs x).length : Int) == 0) = false := beq_eq_false_iff_ne.mpr (fun c => hx (digs_nil.1 (List.length_eq_zero_iff.1 (Int.ofNat.inj c))))
  have hb1 : (((digs y).length : Int) == 0) = false := beq_eq_false_iff_ne.mpr (fun c => hy (digs_nil.1 (List.length_eq_zero_iff.1 (Int.ofNat.inj c))))
  have H0 := Ho.mk h0
  have H1 := Ho.mk h1
  clear h0 h1
  have nn := D4.ne2 w.heap.size
  have nn2 : ¬ (w.heap.size + 1 + 1 = w.heap.size) := fun q => D4.ne2 w.heap.size q.symm
  go_enter Tryd.func21, Tryd.ntmps21
  go_wp2_with fail
  obtain ⟨k, hk⟩ := Int.eq_ofNat_of_zero_le (show 0 ≤ e1 - e0 by omega)
  have hk1 : e1 = e0 + k := by omega
  have HV : Ho (sc n (x - y * 2 ^ k) e0 = sc n x e0 + sc (!n) y e1) := ⟨by rw [sc_sub _ _ _ _ (hge k hk1), hk1, sc_down _ _ _ _ (by unfold K; omega)]⟩
  have HGE := Ho.mk (hge k hk1)
  clear hge
  have hk5 : k ≤ 40000 := by omega
  have KA := Ho.mk (((Blk.new w [.bool n, .slice A0 (digs x).length c0, .int .i64 e0] 24).old (.cells #[.bool (!n), .slice A1 (digs y).length c1, .int .i64 e1] 24)).old (.cells #[.bool false, .slice none 0 0, .int .i64 0] 24))
  have KC := Ho.mk ((Blk.new (w.alloc (.cells #[.bool n, .slice A0 (digs x).length c0, .int .i64 e0] 24)) [.bool (!n), .slice A1 (digs y).length c1, .int .i64 e1] 24).old (.cells #[.bool false, .slice none 0 0, .int .i64 0] 24))
  have KZ := Ho.mk (Blk.new ((w.alloc (.cells #[.bool n, .slice A0 (digs x).length c0, .int .i64 e0] 24)).alloc (.cells #[.bool (!n), .slice A1 (digs y).length c1, .int .i64 e1] 24)) [.bool false, .slice none 0 0, .int .i64 0] 24)
  have HB := Ho.mk ((((Bel.refl w).alloc (.cells #[.bool n, .slice A0 (digs x).length c0, .int .i64 e0] 24)).alloc (.cells #[.bool (!n), .slice A1 (digs y).length c1, .int .i64 e1] 24)).alloc (.cells #[.bool false, .slice none 0 0, .int .i64 0] 24))
  rw [World.size_alloc] at KC
  rw [World.size_alloc, World.size_alloc] at KZ
  have hZ : ((w.alloc (.cells #[.bool n, .slice A0 (digs x).length c0, .int .i64 e0] 24)).alloc (.cells #[.bool (!n), .slice A1 (digs y).length c1, .int .i64 e1] 24)).alloc (.cells #[.bool false, .slice none 0 0, .int .i64 0] 24) = ((w.alloc (.cells #[.bool n, .slice A0 (digs x).length c0, .int .i64 e0] 24)).alloc (.cells #[.bool (!n), .slice A1 (digs y).length c1, .int .i64 e1] 24)).alloc (.cells #[.bool false, .slice none 0 0, .int .i64 0] 24) := rfl
  generalize ((w.alloc (.cells #[.bool n, .slice A0 (digs x).length c0, .int .i64 e0] 24)).alloc (.cells #[.bool (!n), .slice A1 (digs y).length c1, .int .i64 e1] 24)).alloc (.cells #[.bool false, .slice none 0 0, .int .i64 0] 24) = w0 at *
  clear hZ
  have S1 := Ho.mk (R7.shl_calls A0 c0 x 0 0 w0 (H0.out.bel HB.out) hc0 (by omega) rfl (by omega))
  rw [Nat.pow_zero, Nat.mul_one] at S1
  (with_reducible refine (S1.out).mono ?_); rintro e w1 ⟨A2, c2, rfl, hc2, hr2, hb2⟩
  have KA1 := Ho.mk (KA.out.bel hb2)
  have KC1 := Ho.mk (KC.out.bel hb2)
  have KZ1 := Ho.mk (KZ.out.bel hb2)
  have HB1 := Ho.mk (HB.out.trans hb2)
  have HR2 := Ho.mk hr2
  have x1 := KC1.out.cell (i := 1) rfl
  have x2 := KC1.out.cell (i := 2) rfl
  clear hb2 hr2 KA KC KZ HB S1
  have hl2 : (digs (y * 2 ^ k)).length ≤ 2700 := by
    have := D4.len_mul (x := y) (y := 2 ^ k) hl1 (len_p2 k)
    omega
  have hl3 : (digs (x - y * 2 ^ k)).length ≤ 3800 := Nat.le_trans (digs_len_mono (Nat.sub_le _ _)) (by omega)
  have hcm : decide (cmpI (x : Int) ((y * 2 ^ k : Nat) : Int) ≥ 0) = true := by
    rcases Nat.lt_or_eq_of_le HGE.out with h | h
    · rw [cmpI_gt (by omega)]; rfl
    · rw [cmpI_eq (by omega)]; rfl
  have S2 := Ho.mk (R7.shl_calls A1 c1 y k (k : Int) w1 (H1.out.bel HB1.out) hc1 (by omega) (Int.toNat_natCast k).symm (by omega))
  have S3 := Ho.mk (fun (A : Option Addr) (c : Nat) (W : World) (g0 : Rd W A2 (digs x)) (g1 : Rd W A (digs (y * 2 ^ k))) => R5.sub_calls A2 A c2 c x (y * 2 ^ k) W g0 g1 (by omega) HGE.out)
  have S5 := Ho.mk (fun (A : Option Addr) (c : Nat) (W : World) (g0 : Rd W A2 (digs x)) (g1 : Rd W A (digs (y * 2 ^ k))) => R3.cmp_calls A2 A c2 c x (y * 2 ^ k) W g0 g1)
  have S4 := Ho.mk (fun (A : Option Addr) (c : Nat) (W : World) (g : Rd W A (digs (x - y * 2 ^ k))) (hc : (digs (x - y * 2 ^ k)).length ≤ c) => make_calls A c (x - y * 2 ^ k) n e0 W g hc (by omega) (by omega) (by omega))
  rw [HV.out] at S4
  have hkk : e1 - e0 = (k : Int) := hk
  generalize sc n x e0 + sc (!n) y e1 = r at *
  clear hk hk1 hl2 hl3 HV HGE
  generalize cmpI (x : Int) ((y * 2 ^ k : Nat) : Int) = q at *
  generalize x - y * 2 ^ k = xy at *
  generalize y * 2 ^ k = yk at *
  go_wp2_with fail
  (with_reducible refine (S2.out).mono ?_); rintro e w2 ⟨A3, c3, rfl, hc3, hr3, hb3⟩
  have KA2 := Ho.mk (KA1.out.bel hb3)
  have KC2 := Ho.mk (KC1.out.bel hb3)
  have KZ2 := Ho.mk (KZ1.out.bel hb3)
  have HB2 := Ho.mk (HB1.out.trans hb3)
  have HR3 := Ho.mk hr3
  have HR22 := Ho.mk (HR2.out.bel hb3)
  have u0 := KA2.out.cell (i := 0) rfl
  have u1 := KC2.out.cell (i := 0) rfl
  have hnn : (n == !n) = false := by cases n <;> rfl
  clear hb3 hr3 KA1 KC1 KZ1 HB1 S2 x1 x2 HR2
  go_wp2_with fail
  (with_reducible refine (S5.out _ _ _ HR22.out HR3.out).mono ?_); rintro e w3 ⟨rfl, hd⟩
  have hbd : Bel w2 w3 := by obtain ⟨m, rfl⟩ := hd; exact (Bel.refl w2).drewN m
  have HR4 := Ho.mk (HR22.out.bel hbd)
  have HR5 := Ho.mk (HR3.out.bel hbd)
  have KA3 := Ho.mk (KA2.out.bel hbd)
  have KZ3 := Ho.mk (KZ2.out.bel hbd)
  have HB3 := Ho.mk (HB2.out.trans hbd)
  clear hd hbd u0 u1
  go_wp2_with fail
  (with_reducible refine (S3.out _ _ _ HR4.out HR5.out).mono ?_); rintro e w4 ⟨A6, c6, rfl, hc6, hr6, hb6⟩
  have u0 := (KA3.out.bel hb6).cell (i := 0) rfl
  have KZ4 := Ho.mk (KZ3.out.bel hb6)
  have HB4 := Ho.mk (HB3.out.trans hb6)
  clear hb6
  go_wp2_with fail
  (with_reducible refine (S4.out _ _ _ hr6 hc6).mono ?_); rintro e w5 ⟨A7, c7, rfl, hc7, hr7, hb7⟩
  have KB2 := Ho.mk (KZ4.out.bel hb7)
  have HB5 := Ho.mk (HB4.out.trans hb7)
  have y0 := KB2.out.cell (i := 0) rfl
  have y1 := KB2.out.cell (i := 1) rfl
  have y2 := KB2.out.cell (i := 2) rfl
  have z0 := KB2.out.free 0
  have z1 := KB2.out.free 1
  have z2 := KB2.out.free 2
  have HR7 := Ho.mk hr7
  clear hr7 hr6 hb7 u0
  go_wp2
  exact gives_end (fn := Tryd.f21) rfl rfl HB5.out (by omega) KB2.out HR7.out hc7
set_option maxHeartbeats 1000000 in
theorem addV_calls (A0 A1 : Option Addr) (c0 c1 x y : Nat) (n : Bool) (e0 e1 : Int) (w : World) (h0 : Rd w A0 (digs x)) (h1 : Rd w A1 (digs y)) (hc0 : (digs x).length ≤ c0) (hc1 : (digs y).length ≤ c1) (hx : x ≠ 0) (hy : y ≠ 0)
    (hl0 : (digs x).length ≤ 1000) (hl1 : (digs y).length ≤ 1000) (he : e0 ≤ e1) (b0 : -20000 ≤ e0) (b1 : e1 ≤ 20000) (hge : ∀ k : Nat, e1 = e0 + k → x < y * 2 ^ k) :
    Calls Tryd.prog 21 #[.agg #[.bool n, .slice A0 (digs x).length c0, .int .i64 e0], .agg #[.bool (!n), .slice A1 (digs y).length c1, .int .i64 e1]] w (Gives w (sc n x e0 + sc (!n) y e1)) := by
  have hb0 : (((digs x).length : Int) == 0) = false := beq_eq_false_iff_ne.mpr (fun c => hx (digs_nil.1 (List.length_eq_zero_iff.1 (Int.ofNat.inj c))))
  have hb1 : (((digs y).length : Int) == 0) = false := beq_eq_false_iff_ne.mpr (fun c => hy (digs_nil.1 (List.length_eq_zero_iff.1 (Int.ofNat.inj c))))
  have H0 := Ho.mk h0
  have H1 := Ho.mk h1
  clear h0 h1
  have nn := D4.ne2 w.heap.size
  have nn2 : ¬ (w.heap.size + 1 + 1 = w.heap.size) := fun q => D4.ne2 w.heap.size q.symm
  go_enter Tryd.func21, Tryd.ntmps21
  go_wp2_with fail
  obtain ⟨k, hk⟩ := Int.eq_ofNat_of_zero_le (show 0 ≤ e1 - e0 by omega)
  have hk1 : e1 = e0 + k := by omega
  have HV : Ho (sc (!n) (y * 2 ^ k - x) e0 = sc n x e0 + sc (!n) y e1) := ⟨by rw [sc_sub _ _ _ _ (Nat.le_of_lt (hge k hk1)), hk1, sc_down _ _ _ _ (by unfold K; omega), Bool.not_not, Int.add_comm]⟩
  have HGE := Ho.mk (hge k hk1)
  clear hge
  have hk5 : k ≤ 40000 := by omega
  have KA := Ho.mk (((Blk.new w [.bool n, .slice A0 (digs x).length c0, .int .i64 e0] 24).old (.cells #[.bool (!n), .slice A1 (digs y).length c1, .int .i64 e1] 24)).old (.cells #[.bool false, .slice none 0 0, .int .i64 0] 24))
  have KC := Ho.mk ((Blk.new (w.alloc (.cells #[.bool n, .slice A0 (digs x).length c0, .int .i64 e0] 24)) [.bool (!n), .slice A1 (digs y).length c1, .int .i64 e1] 24).old (.cells #[.bool false, .slice none 0 0, .int .i64 0] 24))
  have KZ := Ho.mk (Blk.new ((w.alloc (.cells #[.bool n, .slice A0 (digs x).length c0, .int .i64 e0] 24)).alloc (.cells #[.bool (!n), .slice A1 (digs y).length c1, .int .i64 e1] 24)) [.bool false, .slice none 0 0, .int .i64 0] 24)
  have HB := Ho.mk ((((Bel.refl w).alloc (.cells #[.bool n, .slice A0 (digs x).length c0, .int .i64 e0] 24)).alloc (.cells #[.bool (!n), .slice A1 (digs y).length c1, .int .i64 e1] 24)).alloc (.cells #[.bool false, .slice none 0 0, .int .i64 0] 24))
  rw [World.size_alloc] at KC
  rw [World.size_alloc, World.size_alloc] at KZ
  have hZ : ((w.alloc (.cells #[.bool n, .slice A0 (digs x).length c0, .int .i64 e0] 24)).alloc (.cells #[.bool (!n), .slice A1 (digs y).length c1, .int .i64 e1] 24)).alloc (.cells #[.bool false, .slice none 0 0, .int .i64 0] 24) = ((w.alloc (.cells #[.bool n, .slice A0 (digs x).length c0, .int .i64 e0] 24)).alloc (.cells #[.bool (!n), .slice A1 (digs y).length c1, .int .i64 e1] 24)).alloc (.cells #[.bool false, .slice none 0 0, .int .i64 0] 24) := rfl
  generalize ((w.alloc (.cells #[.bool n, .slice A0 (digs x).length c0, .int .i64 e0] 24)).alloc (.cells #[.bool (!n), .slice A1 (digs y).length c1, .int .i64 e1] 24)).alloc (.cells #[.bool false, .slice none 0 0, .int .i64 0] 24) = w0 at *
  clear hZ
  have S1 := Ho.mk (R7.shl_calls A0 c0 x 0 0 w0 (H0.out.bel HB.out) hc0 (by omega) rfl (by omega))
  rw [Nat.pow_zero, Nat.mul_one] at S1
  (with_reducible refine (S1.out).mono ?_); rintro e w1 ⟨A2, c2, rfl, hc2, hr2, hb2⟩
  have KA1 := Ho.mk (KA.out.bel hb2)
  have KC1 := Ho.mk (KC.out.bel hb2)
  have KZ1 := Ho.mk (KZ.out.bel hb2)
  have HB1 := Ho.mk (HB.out.trans hb2)
  have HR2 := Ho.mk hr2
  have x1 := KC1.out.cell (i := 1) rfl
  have x2 := KC1.out.cell (i := 2) rfl
  clear hb2 hr2 KA KC KZ HB S1
  have hl2 : (digs (y * 2 ^ k)).length ≤ 2700 := by
    have := D4.len_mul (x := y) (y := 2 ^ k) hl1 (len_p2 k)
    omega
  have hl3 : (digs (y * 2 ^ k - x)).length ≤ 3800 := Nat.le_trans (digs_len_mono (Nat.sub_le _ _)) (by omega)
  have hcm : decide (cmpI (x : Int) ((y * 2 ^ k : Nat) : Int) ≥ 0) = false := by
    have h := HGE.out
    rw [cmpI_lt (by omega)]; rfl
  have S2 := Ho.mk (R7.shl_calls A1 c1 y k (k : Int) w1 (H1.out.bel HB1.out) hc1 (by omega) (Int.toNat_natCast k).symm (by omega))
  have S3 := Ho.mk (fun (A : Option Addr) (c : Nat) (W : World) (g0 : Rd W A2 (digs x)) (g1 : Rd W A (digs (y * 2 ^ k))) => R5.sub_calls A A2 c c2 (y * 2 ^ k) x W g1 g0 (by omega) (Nat.le_of_lt HGE.out))
  have S5 := Ho.mk (fun (A : Option Addr) (c : Nat) (W : World) (g0 : Rd W A2 (digs x)) (g1 : Rd W A (digs (y * 2 ^ k))) => R3.cmp_calls A2 A c2 c x (y * 2 ^ k) W g0 g1)
  have S4 := Ho.mk (fun (A : Option Addr) (c : Nat) (W : World) (g : Rd W A (digs (y * 2 ^ k - x))) (hc : (digs (y * 2 ^ k - x)).length ≤ c) => make_calls A c (y * 2 ^ k - x) (!n) e0 W g hc (by omega) (by omega) (by omega))
  rw [HV.out] at S4
  have hkk : e1 - e0 = (k : Int) := hk
  generalize sc n x e0 + sc (!n) y e1 = r at *
  clear hk hk1 hl2 hl3 HV HGE
  generalize cmpI (x : Int) ((y * 2 ^ k : Nat) : Int) = q at *
  generalize y * 2 ^ k - x = xy at *
  generalize y * 2 ^ k = yk at *
  go_wp2_with fail
  (with_reducible refine (S2.out).mono ?_); rintro e w2 ⟨A3, c3, rfl, hc3, hr3, hb3⟩
  have KA2 := Ho.mk (KA1.out.bel hb3)
  have KC2 := Ho.mk (KC1.out.bel hb3)
  have KZ2 := Ho.mk (KZ1.out.bel hb3)
  have HB2 := Ho.mk (HB1.out.trans hb3)
  have HR3 := Ho.mk hr3
  have HR22 := Ho.mk (HR2.out.bel hb3)
  have u0 := KA2.out.cell (i := 0) rfl
  have u1 := KC2.out.cell (i := 0) rfl
  have hnn : (n == !n) = false := by cases n <;> rfl
  clear hb3 hr3 KA1 KC1 KZ1 HB1 S2 x1 x2 HR2
  go_wp2_with fail
  (with_reducible refine (S5.out _ _ _ HR22.out HR3.out).mono ?_); rintro e w3 ⟨rfl, hd⟩
  have hbd : Bel w2 w3 := by obtain ⟨m, rfl⟩ := hd; exact (Bel.refl w2).drewN m
  have HR4 := Ho.mk (HR22.out.bel hbd)
  have HR5 := Ho.mk (HR3.out.bel hbd)
  have KA3 := Ho.mk (KC2.out.bel hbd)
  have KZ3 := Ho.mk (KZ2.out.bel hbd)
  have HB3 := Ho.mk (HB2.out.trans hbd)
  clear hd hbd u0 u1
  go_wp2_with fail
  (with_reducible refine (S3.out _ _ _ HR4.out HR5.out).mono ?_); rintro e w4 ⟨A6, c6, rfl, hc6, hr6, hb6⟩
  have u0 := (KA3.out.bel hb6).cell (i := 0) rfl
  have KZ4 := Ho.mk (KZ3.out.bel hb6)
  have HB4 := Ho.mk (HB3.out.trans hb6)
  clear hb6
  go_wp2_with fail
  (with_reducible refine (S4.out _ _ _ hr6 hc6).mono ?_); rintro e w5 ⟨A7, c7, rfl, hc7, hr7, hb7⟩
  have KB2 := Ho.mk (KZ4.out.bel hb7)
  have HB5 := Ho.mk (HB4.out.trans hb7)
  have y0 := KB2.out.cell (i := 0) rfl
  have y1 := KB2.out.cell (i := 1) rfl
  have y2 := KB2.out.cell (i := 2) rfl
  have z0 := KB2.out.free 0
  have z1 := KB2.out.free 1
  have z2 := KB2.out.free 2
  have HR7 := Ho.mk hr7
  clear hr7 hr6 hb7 u0
  go_wp2
  exact gives_end (fn := Tryd.f21) rfl rfl HB5.out (by omega) KB2.out HR7.out hc7
set_option maxHeartbeats 1000000 in
theorem addU2_calls (A0 A1 : Option Addr) (c0 c1 x y : Nat) (n : Bool) (e0 e1 : Int) (w : World) (h0 : Rd w A0 (digs x)) (h1 : Rd w A1 (digs y)) (hc0 : (digs x).length ≤ c0) (hc1 : (digs y).length ≤ c1) (hx : x ≠ 0) (hy : y ≠ 0)
    (hl0 : (digs x).length ≤ 1000) (hl1 : (digs y).length ≤ 1000) (he : e1 < e0) (b0 : -20000 ≤ e1) (b1 : e0 ≤ 20000) (hge : ∀ k : Nat, e0 = e1 + k → y ≤ x * 2 ^ k) :
    Calls Tryd.prog 21 #[.agg #[.bool n, .slice A0 (digs x).length c0, .int .i64 e0], .agg #[.bool (!n), .slice A1 (digs y).length c1, .int .i64 e1]] w (Gives w (sc n x e0 + sc (!n) y e1)) := by
  have hb0 : (((digs x).length : Int) == 0) = false := beq_eq_false_iff_ne.mpr (fun c => hx (digs_nil.1 (List.length_eq_zero_iff.1 (Int.ofNat.inj c))))
  have hb1 : (((digs y).length : Int) == 0) = false := beq_eq_false_iff_ne.mpr (fun c => hy (digs_nil.1 (List.length_eq_zero_iff.1 (Int.ofNat.inj c))))
  have H0 := Ho.mk h0
  have H1 := Ho.mk h1
  clear h0 h1
  have nn := D4.ne2 w.heap.size
  have nn2 : ¬ (w.heap.size + 1 + 1 = w.heap.size) := fun q => D4.ne2 w.heap.size q.symm
  go_enter Tryd.func21, Tryd.ntmps21
  go_wp2_with fail
  obtain ⟨k, hk⟩ := Int.eq_ofNat_of_zero_le (show 0 ≤ e0 - e1 by omega)
  have hk1 : e0 = e1 + k := by omega
  have HV : Ho (sc n (x * 2 ^ k - y) e1 = sc n x e0 + sc (!n) y e1) := ⟨by rw [sc_sub _ _ _ _ (hge k hk1), hk1, sc_down _ _ _ _ (by unfold K; omega)]⟩
  have HGE := Ho.mk (hge k hk1)
  clear hge
  have hk5 : k ≤ 40000 := by omega
  have KA := Ho.mk (((Blk.new w [.bool n, .slice A0 (digs x).length c0, .int .i64 e0] 24).old (.cells #[.bool (!n), .slice A1 (digs y).length c1, .int .i64 e1] 24)).old (.cells #[.bool false, .slice none 0 0, .int .i64 0] 24))
  have KC := Ho.mk ((Blk.new (w.alloc (.cells #[.bool n, .slice A0 (digs x).length c0, .int .i64 e0] 24)) [.bool (!n), .slice A1 (digs y).length c1, .int .i64 e1] 24).old (.cells #[.bool false, .slice none 0 0, .int .i64 0] 24))
  have KZ := Ho.mk (Blk.new ((w.alloc (.cells #[.bool n, .slice A0 (digs x).length c0, .int .i64 e0] 24)).alloc (.cells #[.bool (!n), .slice A1 (digs y).length c1, .int .i64 e1] 24)) [.bool false, .slice none 0 0, .int .i64 0] 24)
  have HB := Ho.mk ((((Bel.refl w).alloc (.cells #[.bool n, .slice A0 (digs x).length c0, .int .i64 e0] 24)).alloc (.cells #[.bool (!n), .slice A1 (digs y).length c1, .int .i64 e1] 24)).alloc (.cells #[.bool false, .slice none 0 0, .int .i64 0] 24))
  rw [World.size_alloc] at KC
  rw [World.size_alloc, World.size_alloc] at KZ
  have hZ : ((w.alloc (.cells #[.bool n, .slice A0 (digs x).length c0, .int .i64 e0] 24)).alloc (.cells #[.bool (!n), .slice A1 (digs y).length c1, .int .i64 e1] 24)).alloc (.cells #[.bool false, .slice none 0 0, .int .i64 0] 24) = ((w.alloc (.cells #[.bool n, .slice A0 (digs x).length c0, .int .i64 e0] 24)).alloc (.cells #[.bool (!n), .slice A1 (digs y).length c1, .int .i64 e1] 24)).alloc (.cells #[.bool false, .slice none 0 0, .int .i64 0] 24) := rfl
  generalize ((w.alloc (.cells #[.bool n, .slice A0 (digs x).length c0, .int .i64 e0] 24)).alloc (.cells #[.bool (!n), .slice A1 (digs y).length c1, .int .i64 e1] 24)).alloc (.cells #[.bool false, .slice none 0 0, .int .i64 0] 24) = w0 at *
  clear hZ
  have S1 := Ho.mk (R7.shl_calls A0 c0 x k (k : Int) w0 (H0.out.bel HB.out) hc0 (by omega) (Int.toNat_natCast k).symm (by omega))
  have hkk : e0 - e1 = (k : Int) := hk
  rw [hkk]
  clear hk
  (with_reducible refine (S1.out).mono ?_); rintro e w1 ⟨A2, c2, rfl, hc2, hr2, hb2⟩
  have KA1 := Ho.mk (KA.out.bel hb2)
  have KC1 := Ho.mk (KC.out.bel hb2)
  have KZ1 := Ho.mk (KZ.out.bel hb2)
  have HB1 := Ho.mk (HB.out.trans hb2)
  have HR2 := Ho.mk hr2
  have x1 := KC1.out.cell (i := 1) rfl
  have x2 := KC1.out.cell (i := 2) rfl
  clear hb2 hr2 KA KC KZ HB S1
  have hl2 : (digs (x * 2 ^ k)).length ≤ 2700 := by
    have := D4.len_mul (x := x) (y := 2 ^ k) hl0 (len_p2 k)
    omega
  have hl3 : (digs (x * 2 ^ k - y)).length ≤ 3800 := Nat.le_trans (digs_len_mono (Nat.sub_le _ _)) (by omega)
  have hcm : decide (cmpI ((x * 2 ^ k : Nat) : Int) (y : Int) ≥ 0) = true := by
    rcases Nat.lt_or_eq_of_le HGE.out with h | h
    · rw [cmpI_gt (by omega)]; rfl
    · rw [cmpI_eq (by omega)]; rfl
  have S2 := Ho.mk (R7.shl_calls A1 c1 y 0 0 w1 (H1.out.bel HB1.out) hc1 (by omega) rfl (by omega))
  rw [Nat.pow_zero, Nat.mul_one] at S2
  have S3 := Ho.mk (fun (A : Option Addr) (c : Nat) (W : World) (g0 : Rd W A2 (digs (x * 2 ^ k))) (g1 : Rd W A (digs y)) => R5.sub_calls A2 A c2 c (x * 2 ^ k) y W g0 g1 (by omega) HGE.out)
  have S5 := Ho.mk (fun (A : Option Addr) (c : Nat) (W : World) (g0 : Rd W A2 (digs (x * 2 ^ k))) (g1 : Rd W A (digs y)) => R3.cmp_calls A2 A c2 c (x * 2 ^ k) y W g0 g1)
  have S4 := Ho.mk (fun (A : Option Addr) (c : Nat) (W : World) (g : Rd W A (digs (x * 2 ^ k - y))) (hc : (digs (x * 2 ^ k - y)).length ≤ c) => make_calls A c (x * 2 ^ k - y) n e1 W g hc (by omega) (by omega) (by omega))
  rw [HV.out] at S4
  generalize sc n x e0 + sc (!n) y e1 = r at *
  clear hk1 hl2 hl3 HV HGE
  generalize cmpI ((x * 2 ^ k : Nat) : Int) (y : Int) = q at *
  generalize x * 2 ^ k - y = xy at *
  generalize x * 2 ^ k = yk at *
  go_wp2_with fail
  (with_reducible refine (S2.out).mono ?_); rintro e w2 ⟨A3, c3, rfl, hc3, hr3, hb3⟩
  have KA2 := Ho.mk (KA1.out.bel hb3)
  have KC2 := Ho.mk (KC1.out.bel hb3)
  have KZ2 := Ho.mk (KZ1.out.bel hb3)
  have HB2 := Ho.mk (HB1.out.trans hb3)
  have HR3 := Ho.mk hr3
  have HR22 := Ho.mk (HR2.out.bel hb3)
  have u0 := KA2.out.cell (i := 0) rfl
  have u1 := KC2.out.cell (i := 0) rfl
  have hnn : (n == !n) = false := by cases n <;> rfl
  clear hb3 hr3 KA1 KC1 KZ1 HB1 S2 x1 x2 HR2
  go_wp2_with fail
  (with_reducible refine (S5.out _ _ _ HR22.out HR3.out).mono ?_); rintro e w3 ⟨rfl, hd⟩
  have hbd : Bel w2 w3 := by obtain ⟨m, rfl⟩ := hd; exact (Bel.refl w2).drewN m
  have HR4 := Ho.mk (HR22.out.bel hbd)
  have HR5 := Ho.mk (HR3.out.bel hbd)
  have KA3 := Ho.mk (KA2.out.bel hbd)
  have KZ3 := Ho.mk (KZ2.out.bel hbd)
  have HB3 := Ho.mk (HB2.out.trans hbd)
  clear hd hbd u0 u1
  go_wp2_with fail
  (with_reducible refine (S3.out _ _ _ HR4.out HR5.out).mono ?_); rintro e w4 ⟨A6, c6, rfl, hc6, hr6, hb6⟩
  have u0 := (KA3.out.bel hb6).cell (i := 0) rfl
  have KZ4 := Ho.mk (KZ3.out.bel hb6)
  have HB4 := Ho.mk (HB3.out.trans hb6)
  clear hb6
  go_wp2_with fail
  (with_reducible refine (S4.out _ _ _ hr6 hc6).mono ?_); rintro e w5 ⟨A7, c7, rfl, hc7, hr7, hb7⟩
  have KB2 := Ho.mk (KZ4.out.bel hb7)
  have HB5 := Ho.mk (HB4.out.trans hb7)
  have y0 := KB2.out.cell (i := 0) rfl
  have y1 := KB2.out.cell (i := 1) rfl
  have y2 := KB2.out.cell (i := 2) rfl
  have z0 := KB2.out.free 0
  have z1 := KB2.out.free 1
  have z2 := KB2.out.free 2
  have HR7 := Ho.mk hr7
  clear hr7 hr6 hb7 u0
  go_wp2
  exact gives_end (fn := Tryd.f21) rfl rfl HB5.out (by omega) KB2.out HR7.out hc7
set_option maxHeartbeats 1000000 in
theorem addV2_calls (A0 A1 : Option Addr) (c0 c1 x y : Nat) (n : Bool) (e0 e1 : Int) (w : World) (h0 : Rd w A0 (digs x)) (h1 : Rd w A1 (digs y)) (hc0 : (digs x).length ≤ c0) (hc1 : (digs y).length ≤ c1) (hx : x ≠ 0) (hy : y ≠ 0)
    (hl0 : (digs x).length ≤ 1000) (hl1 : (digs y).length ≤ 1000) (he : e1 < e0) (b0 : -20000 ≤ e1) (b1 : e0 ≤ 20000) (hge : ∀ k : Nat, e0 = e1 + k → x * 2 ^ k < y) :
    Calls Tryd.prog 21 #[.agg #[.bool n, .slice A0 (digs x).length c0, .int .i64 e0], .agg #[.bool (!n), .slice A1 (digs y).length c1, .int .i64 e1]] w (Gives w (sc n x e0 + sc (!n) y e1)) := by
  have hb0 : (((digs x).length : Int) == 0) = false := beq_eq_false_iff_ne.mpr (fun c => hx (digs_nil.1 (List.length_eq_zero_iff.1 (Int.ofNat.inj c))))
  have hb1 : (((digs y).length : Int) == 0) = false := beq_eq_false_iff_ne.mpr (fun c => hy (digs_nil.1 (List.length_eq_zero_iff.1 (Int.ofNat.inj c))))
  have H0 := Ho.mk h0
  have H1 := Ho.mk h1
  clear h0 h1
  have nn := D4.ne2 w.heap.size
  have nn2 : ¬ (w.heap.size + 1 + 1 = w.heap.size) := fun q => D4.ne2 w.heap.size q.symm
  go_enter Tryd.func21, Tryd.ntmps21
  go_wp2_with fail
  obtain ⟨k, hk⟩ := Int.eq_ofNat_of_zero_le (show 0 ≤ e0 - e1 by omega)
  have hk1 : e0 = e1 + k := by omega
  have HV : Ho (sc (!n) (y - x * 2 ^ k) e1 = sc n x e0 + sc (!n) y e1) := ⟨by rw [sc_sub _ _ _ _ (Nat.le_of_lt (hge k hk1)), hk1, sc_down _ _ _ _ (by unfold K; omega), Bool.not_not, Int.add_comm]⟩
  have HGE := Ho.mk (hge k hk1)
  clear hge
  have hk5 : k ≤ 40000 := by omega
  have KA := Ho.mk (((Blk.new w [.bool n, .slice A0 (digs x).length c0, .int .i64 e0] 24).old (.cells #[.bool (!n), .slice A1 (digs y).length c1, .int .i64 e1] 24)).old (.cells #[.bool false, .slice none 0 0, .int .i64 0] 24))
  have KC := Ho.mk ((Blk.new (w.alloc (.cells #[.bool n, .slice A0 (digs x).length c0, .int .i64 e0] 24)) [.bool (!n), .slice A1 (digs y).length c1, .int .i64 e1] 24).old (.cells #[.bool false, .slice none 0 0, .int .i64 0] 24))
  have KZ := Ho.mk (Blk.new ((w.alloc (.cells #[.bool n, .slice A0 (digs x).length c0, .int .i64 e0] 24)).alloc (.cells #[.bool (!n), .slice A1 (digs y).length c1, .int .i64 e1] 24)) [.bool false, .slice none 0 0, .int .i64 0] 24)
  have HB := Ho.mk ((((Bel.refl w).alloc (.cells #[.bool n, .slice A0 (digs x).length c0, .int .i64 e0] 24)).alloc (.cells #[.bool (!n), .slice A1 (digs y).length c1, .int .i64 e1] 24)).alloc (.cells #[.bool false, .slice none 0 0, .int .i64 0] 24))
  rw [World.size_alloc] at KC
  rw [World.size_alloc, World.size_alloc] at KZ
  have hZ : ((w.alloc (.cells #[.bool n, .slice A0 (digs x).length c0, .int .i64 e0] 24)).alloc (.cells #[.bool (!n), .slice A1 (digs y).length c1, .int .i64 e1] 24)).alloc (.cells #[.bool false, .slice none 0 0, .int .i64 0] 24) = ((w.alloc (.cells #[.bool n, .slice A0 (digs x).length c0, .int .i64 e0] 24)).alloc (.cells #[.bool (!n), .slice A1 (digs y).length c1, .int .i64 e1] 24)).alloc (.cells #[.bool false, .slice none 0 0, .int .i64 0] 24) := rfl
  generalize ((w.alloc (.cells #[.bool n, .slice A0 (digs x).length c0, .int .i64 e0] 24)).alloc (.cells #[.bool (!n), .slice A1 (digs y).length c1, .int .i64 e1] 24)).alloc (.cells #[.bool false, .slice none 0 0, .int .i64 0] 24) = w0 at *
  clear hZ
  have S1 := Ho.mk (R7.shl_calls A0 c0 x k (k : Int) w0 (H0.out.bel HB.out) hc0 (by omega) (Int.toNat_natCast k).symm (by omega))
  have hkk : e0 - e1 = (k : Int) := hk
  rw [hkk]
  clear hk
  (with_reducible refine (S1.out).mono ?_); rintro e w1 ⟨A2, c2, rfl, hc2, hr2, hb2⟩
  have KA1 := Ho.mk (KA.out.bel hb2)
  have KC1 := Ho.mk (KC.out.bel hb2)
  have KZ1 := Ho.mk (KZ.out.bel hb2)
  have HB1 := Ho.mk (HB.out.trans hb2)
  have HR2 := Ho.mk hr2
  have x1 := KC1.out.cell (i := 1) rfl
  have x2 := KC1.out.cell (i := 2) rfl
  clear hb2 hr2 KA KC KZ HB S1
  have hl2 : (digs (x * 2 ^ k)).length ≤ 2700 := by
    have := D4.len_mul (x := x) (y := 2 ^ k) hl0 (len_p2 k)
    omega
  have hl3 : (digs (y - x * 2 ^ k)).length ≤ 3800 := Nat.le_trans (digs_len_mono (Nat.sub_le _ _)) (by omega)
  have hcm : decide (cmpI ((x * 2 ^ k : Nat) : Int) (y : Int) ≥ 0) = false := by
    have h := HGE.out
    rw [cmpI_lt (by omega)]; rfl
  have S2 := Ho.mk (R7.shl_calls A1 c1 y 0 0 w1 (H1.out.bel HB1.out) hc1 (by omega) rfl (by omega))
  rw [Nat.pow_zero, Nat.mul_one] at S2
  have S3 := Ho.mk (fun (A : Option Addr) (c : Nat) (W : World) (g0 : Rd W A2 (digs (x * 2 ^ k))) (g1 : Rd W A (digs y)) => R5.sub_calls A A2 c c2 y (x * 2 ^ k) W g1 g0 (by omega) (Nat.le_of_lt HGE.out))
  have S5 := Ho.mk (fun (A : Option Addr) (c : Nat) (W : World) (g0 : Rd W A2 (digs (x * 2 ^ k))) (g1 : Rd W A (digs y)) => R3.cmp_calls A2 A c2 c (x * 2 ^ k) y W g0 g1)
  have S4 := Ho.mk (fun (A : Option Addr) (c : Nat) (W : World) (g : Rd W A (digs (y - x * 2 ^ k))) (hc : (digs (y - x * 2 ^ k)).length ≤ c) => make_calls A c (y - x * 2 ^ k) (!n) e1 W g hc (by omega) (by omega) (by omega))
  rw [HV.out] at S4
  generalize sc n x e0 + sc (!n) y e1 = r at *
  clear hk1 hl2 hl3 HV HGE
  generalize cmpI ((x * 2 ^ k : Nat) : Int) (y : Int) = q at *
  generalize y - x * 2 ^ k = xy at *
  generalize x * 2 ^ k = yk at *
  go_wp2_with fail
  (with_reducible refine (S2.out).mono ?_); rintro e w2 ⟨A3, c3, rfl, hc3, hr3, hb3⟩
  have KA2 := Ho.mk (KA1.out.bel hb3)
  have KC2 := Ho.mk (KC1.out.bel hb3)
  have KZ2 := Ho.mk (KZ1.out.bel hb3)
  have HB2 := Ho.mk (HB1.out.trans hb3)
  have HR3 := Ho.mk hr3
  have HR22 := Ho.mk (HR2.out.bel hb3)
  have u0 := KA2.out.cell (i := 0) rfl
  have u1 := KC2.out.cell (i := 0) rfl
  have hnn : (n == !n) = false := by cases n <;> rfl
  clear hb3 hr3 KA1 KC1 KZ1 HB1 S2 x1 x2 HR2
  go_wp2_with fail
  (with_reducible refine (S5.out _ _ _ HR22.out HR3.out).mono ?_); rintro e w3 ⟨rfl, hd⟩
  have hbd : Bel w2 w3 := by obtain ⟨m, rfl⟩ := hd; exact (Bel.refl w2).drewN m
  have HR4 := Ho.mk (HR22.out.bel hbd)
  have HR5 := Ho.mk (HR3.out.bel hbd)
  have KA3 := Ho.mk (KC2.out.bel hbd)
  have KZ3 := Ho.mk (KZ2.out.bel hbd)
  have HB3 := Ho.mk (HB2.out.trans hbd)
  clear hd hbd u0 u1
  go_wp2_with fail
  (with_reducible refine (S3.out _ _ _ HR4.out HR5.out).mono ?_); rintro e w4 ⟨A6, c6, rfl, hc6, hr6, hb6⟩
  have u0 := (KA3.out.bel hb6).cell (i := 0) rfl
  have KZ4 := Ho.mk (KZ3.out.bel hb6)
  have HB4 := Ho.mk (HB3.out.trans hb6)
  clear hb6
  go_wp2_with fail
  (with_reducible refine (S4.out _ _ _ hr6 hc6).mono ?_); rintro e w5 ⟨A7, c7, rfl, hc7, hr7, hb7⟩
  have KB2 := Ho.mk (KZ4.out.bel hb7)
  have HB5 := Ho.mk (HB4.out.trans hb7)
  have y0 := KB2.out.cell (i := 0) rfl
  have y1 := KB2.out.cell (i := 1) rfl
  have y2 := KB2.out.cell (i := 2) rfl
  have z0 := KB2.out.free 0
  have z1 := KB2.out.free 1
  have z2 := KB2.out.free 2
  have HR7 := Ho.mk hr7
  clear hr7 hr6 hb7 u0
  go_wp2
  exact gives_end (fn := Tryd.f21) rfl rfl HB5.out (by omega) KB2.out HR7.out hc7
end Go.Proofs.YtnmjnjhijcnbcaaDoor.D6
