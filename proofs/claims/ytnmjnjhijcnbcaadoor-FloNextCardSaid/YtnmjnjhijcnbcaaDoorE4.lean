/-
  The walk of package dya: Add.
-/
import Derived.Test.YtnmjnjhijcnbcaaDoorE3
import Derived.Deep.RegionHeld3
import Derived.Deep.DeepCutAuto
set_option linter.unusedVariables false
set_option linter.unusedSimpArgs false
namespace Go.Proofs.YtnmjnjhijcnbcaaDoor.E4
open Go Go.RowKit Go.Proofs.YtnmjnjhijcnbcaaDoor Go.Proofs.YtnmjnjhijcnbcaaDoor.Ow Go.Proofs.YtnmjnjhijcnbcaaDoor.Pl Go.Proofs.YtnmjnjhijcnbcaaDoor.Dp Go.Proofs.YtnmjnjhijcnbcaaDoor.Dt Go.Proofs.YtnmjnjhijcnbcaaDoor.D3 Go.Proofs.YtnmjnjhijcnbcaaDoor.E1 Go.Proofs.YtnmjnjhijcnbcaaDoor.E2

theorem len_add1 {x y a : Nat} (h : (digs x).length ≤ a) (k : (digs y).length ≤ a) : (digs (x + y)).length ≤ a + 1 := by
  apply digs_len_le.2
  have h1 := digs_len_le.1 h
  have h2 := digs_len_le.1 k
  rw [Nat.pow_succ]
  generalize 16777216 ^ a = z at *
  omega
theorem blk_ne {w : World} {p q : Nat} {s t : TypeId} {cs ds : List Value} (h : Blk w p s cs) (k : Blk w q t ds) (hne : s ≠ t) : p ≠ q := fun e => by
  subst e
  have := h.out.symm.trans k.out
  simp at this
  exact hne this.2
theorem pair_blk (w0 : World) (c1 c2 c3 d1 d2 d3 : Value) (t : TypeId) :
    Blk (((w0.alloc (.cells #[c1, c2, c3] t)).alloc (.cells #[d1, d2, d3] t)).drew) w0.heap.size t [c1, c2, c3] ∧ Blk (((w0.alloc (.cells #[c1, c2, c3] t)).alloc (.cells #[d1, d2, d3] t)).drew) (w0.heap.size + 1) t [d1, d2, d3] ∧ Bel w0 (((w0.alloc (.cells #[c1, c2, c3] t)).alloc (.cells #[d1, d2, d3] t)).drew) := by
  refine ⟨((Blk.new w0 [c1, c2, c3] t).old _).drew, ?_, (((Bel.refl w0).alloc _).alloc _).drew⟩
  have := (Blk.new (w0.alloc (.cells #[c1, c2, c3] t)) [d1, d2, d3] t).drew
  rw [World.size_alloc] at this
  exact this
theorem zeroT'_calls (A : Option Addr) (c x : Nat) (n : Bool) (e : Int) (w : World) (hx : x = 0) :
    Calls Tryd.prog 51 #[.agg #[.bool n, .slice A (digs x).length c, .int .i64 e]] w fun e w' => e = .returned (.bool true) ∧ Bel w w' := by
  subst hx; rw [digs_zero]; exact zeroT_calls A c n e w
set_option maxRecDepth 100000 in
set_option maxHeartbeats 4000000 in
theorem add_calls (A0 A1 : Option Addr) (c0 c1 : Nat) (u v : Int) (w : World) (T : Tab w) (h0 : Rd w A0 (digs (dm u))) (h1 : Rd w A1 (digs (dm v))) (hc0 : (digs (dm u)).length ≤ c0) (hc1 : (digs (dm v)).length ≤ c1)
    (hl0 : (digs (dm u)).length ≤ 1000) (hl1 : (digs (dm v)).length ≤ 1000) (b0 : -20000 ≤ de u) (b1 : de u ≤ 20000) (b2 : -20000 ≤ de v) (b3 : de v ≤ 20000) :
    Calls Tryd.prog 20 #[.agg #[.bool (dneg u), .slice A0 (digs (dm u)).length c0, .int .i64 (de u)], .agg #[.bool (dneg v), .slice A1 (digs (dm v)).length c1, .int .i64 (de v)]] w (Gives w (u + v)) := by
  have H0 := Ho.mk h0
  have H1 := Ho.mk h1
  have HC0 := Ho.mk hc0
  have HC1 := Ho.mk hc1
  have TT := Ho.mk T
  have HU := Ho.mk (sc_self u)
  have HV := Ho.mk (sc_self v)
  have ZU := Ho.mk (dm_zero (v := u))
  have ZV := Ho.mk (dm_zero (v := v))
  have SU := Ho.mk (fun (W : World) (g : Bel w W) => shift_calls A0 c0 u 0 W (T.bel g) (h0.bel g) hc0 (by omega) b0 b1 (by omega) (by omega))
  have SV := Ho.mk (fun (W : World) (g : Bel w W) => shift_calls A1 c1 v 0 W (T.bel g) (h1.bel g) hc1 (by omega) b2 b3 (by omega) (by omega))
  rw [Int.add_zero, sc_self] at SU SV
  have EU : Ho (u = 0 → u + v = v) := ⟨fun q => by rw [q, Int.zero_add]⟩
  have EV : Ho (v = 0 → u + v = u) := ⟨fun q => by rw [q, Int.add_zero]⟩
  have SG : Ho (-(K : Int) ≤ de u ∧ -(K : Int) ≤ de v) := ⟨de_ge, de_ge⟩
  clear h0 h1 hc0 hc1 T
  obtain ⟨r, hr⟩ : ∃ r, u + v = r := ⟨_, rfl⟩
  have HRR := Ho.mk hr
  rw [hr]
  clear hr
  generalize dneg u = n0 at *
  generalize dneg v = n1 at *
  generalize dm u = x at *
  generalize dm v = y at *
  generalize de u = e0 at *
  generalize de v = e1 at *
  go_enter Tryd.func20, Tryd.ntmps20
  go_upto_region 1 with fail
  have KA := Ho.mk (((Blk.new w [.bool n0, .slice A0 (digs x).length c0, .int .i64 e0] 24).old (.cells #[.bool n1, .slice A1 (digs y).length c1, .int .i64 e1] 24)).old (.cells #[.bool false, .slice none 0 0, .int .i64 0] 24))
  have KC := Ho.mk ((Blk.new (w.alloc (.cells #[.bool n0, .slice A0 (digs x).length c0, .int .i64 e0] 24)) [.bool n1, .slice A1 (digs y).length c1, .int .i64 e1] 24).old (.cells #[.bool false, .slice none 0 0, .int .i64 0] 24))
  have KZ := Ho.mk (Blk.new ((w.alloc (.cells #[.bool n0, .slice A0 (digs x).length c0, .int .i64 e0] 24)).alloc (.cells #[.bool n1, .slice A1 (digs y).length c1, .int .i64 e1] 24)) [.bool false, .slice none 0 0, .int .i64 0] 24)
  have HB := Ho.mk ((((Bel.refl w).alloc (.cells #[.bool n0, .slice A0 (digs x).length c0, .int .i64 e0] 24)).alloc (.cells #[.bool n1, .slice A1 (digs y).length c1, .int .i64 e1] 24)).alloc (.cells #[.bool false, .slice none 0 0, .int .i64 0] 24))
  rw [World.size_alloc] at KC
  rw [World.size_alloc, World.size_alloc] at KZ
  have hZ : ((w.alloc (.cells #[.bool n0, .slice A0 (digs x).length c0, .int .i64 e0] 24)).alloc (.cells #[.bool n1, .slice A1 (digs y).length c1, .int .i64 e1] 24)).alloc (.cells #[.bool false, .slice none 0 0, .int .i64 0] 24) = ((w.alloc (.cells #[.bool n0, .slice A0 (digs x).length c0, .int .i64 e0] 24)).alloc (.cells #[.bool n1, .slice A1 (digs y).length c1, .int .i64 e1] 24)).alloc (.cells #[.bool false, .slice none 0 0, .int .i64 0] 24) := rfl
  generalize ((w.alloc (.cells #[.bool n0, .slice A0 (digs x).length c0, .int .i64 e0] 24)).alloc (.cells #[.bool n1, .slice A1 (digs y).length c1, .int .i64 e1] 24)).alloc (.cells #[.bool false, .slice none 0 0, .int .i64 0] 24) = w0 at *
  clear hZ
  go_cut [5, 6] (fun s5 s6 wx => ∃ p q : Nat, s5 = .pointer (some ⟨p, 0, none⟩) ∧ s6 = .pointer (some ⟨q, 0, none⟩) ∧ Ho (Blk wx p 58 [.bool n0, .slice A0 (digs x).length c0, .int .i64 e0]) ∧ Ho (Blk wx q 58 [.bool n1, .slice A1 (digs y).length c1, .int .i64 e1]) ∧ Ho (Bel w0 wx))
  case first =>
    have a0 := KA.out.cell (i := 0) rfl
    have a1 := KA.out.cell (i := 1) rfl
    have a2 := KA.out.cell (i := 2) rfl
    have d0 := KC.out.cell (i := 0) rfl
    have d1 := KC.out.cell (i := 1) rfl
    have d2 := KC.out.cell (i := 2) rfl
    have ea0 := World.new_ne w0 _ a0
    have ea1 := World.new_ne w0 _ a1
    have ea2 := World.new_ne w0 _ a2
    have ed0 := World.new_ne w0 _ d0
    have ed1 := World.new_ne w0 _ d1
    have ed2 := World.new_ne w0 _ d2
    go_region_held3 (fun w' => w'.cell? ⟨w.heap.size, 0, none⟩ = some (.bool n0) ∧ w'.cell? ⟨w.heap.size, 1, none⟩ = some (.slice A0 (digs x).length c0) ∧ w'.cell? ⟨w.heap.size, 2, none⟩ = some (.int .i64 e0) ∧
      w'.cell? ⟨w.heap.size + 1, 0, none⟩ = some (.bool n1) ∧ w'.cell? ⟨w.heap.size + 1, 1, none⟩ = some (.slice A1 (digs y).length c1) ∧ w'.cell? ⟨w.heap.size + 1, 2, none⟩ = some (.int .i64 e1)) (go_keep) (fail)
    all_goals (go_wp2_with fail; go_meet)
    all_goals clear KA KC KZ HB a0 a1 a2 d0 d1 d2 ea0 ea1 ea2 ed0 ed1 ed2
    · exact ⟨_, _, rfl, rfl, ⟨(pair_blk ..).1⟩, ⟨(pair_blk ..).2.1⟩, ⟨(pair_blk ..).2.2⟩⟩
    · exact ⟨_, _, rfl, rfl, ⟨(pair_blk ..).2.1⟩, ⟨(pair_blk ..).1⟩, ⟨(pair_blk ..).2.2⟩⟩
  obtain ⟨p, q, rfl, rfl, KP, KQ, HB0⟩ := hcut
  have KA1 := Ho.mk (KA.out.bel HB0.out)
  have KC1 := Ho.mk (KC.out.bel HB0.out)
  have KZ1 := Ho.mk (KZ.out.bel HB0.out)
  have HB1 := Ho.mk (HB.out.trans HB0.out)
  clear KA KC KZ HB HB0
  have y0p := KP.out.cell (i := 0) rfl
  have y1p := KP.out.cell (i := 1) rfl
  have y2p := KP.out.cell (i := 2) rfl
  have y0q := KQ.out.cell (i := 0) rfl
  have y1q := KQ.out.cell (i := 1) rfl
  have y2q := KQ.out.cell (i := 2) rfl
  by_cases hx : x = 0
  · have hrv : r = v := by rw [← HRR.out]; exact EU.out (ZU.out.1 hx)
    subst hrv
    have Z := Ho.mk (fun (W : World) => zeroT'_calls A0 c0 x n0 e0 W hx)
    have y0c := KC1.out.cell (i := 0) rfl
    have y1c := KC1.out.cell (i := 1) rfl
    have y2c := KC1.out.cell (i := 2) rfl
    clear EU EV SU ZU ZV HU HV HRR hx SG
    go_wp2_with fail
    (with_reducible refine (Z.out _).mono ?_); rintro e w1 ⟨rfl, hb1⟩
    have KC2 := Ho.mk (KC1.out.bel hb1)
    have KZ2 := Ho.mk (KZ1.out.bel hb1)
    have HB2 := Ho.mk (HB1.out.trans hb1)
    clear y0c y1c y2c
    have y0c := KC2.out.cell (i := 0) rfl
    have y1c := KC2.out.cell (i := 1) rfl
    have y2c := KC2.out.cell (i := 2) rfl
    clear hb1
    go_wp2_with fail
    (with_reducible refine (SV.out _ HB2.out).mono ?_); rintro e w2 ⟨A2, c2, rfl, hc2, hr2, hb2⟩
    have KB2 := Ho.mk (KZ2.out.bel hb2)
    have HB3 := Ho.mk (HB2.out.trans hb2)
    have HR2 := Ho.mk hr2
    clear hr2 hb2 y0c y1c y2c y0p y1p y2p y0q y1q y2q
    have y0 := KB2.out.cell (i := 0) rfl
    have y1 := KB2.out.cell (i := 1) rfl
    have y2 := KB2.out.cell (i := 2) rfl
    have z0 := KB2.out.free 0
    have z1 := KB2.out.free 1
    have z2 := KB2.out.free 2
    go_wp2
    exact gives_end (fn := Tryd.f20) rfl rfl HB3.out (by omega) KB2.out HR2.out hc2
  by_cases hy : y = 0
  · have hrv : r = u := by rw [← HRR.out]; exact EV.out (ZV.out.1 hy)
    subst hrv
    have ZF := Ho.mk (fun (W : World) => zeroF_calls A0 c0 x n0 e0 W hx)
    have Z := Ho.mk (fun (W : World) => zeroT'_calls A1 c1 y n1 e1 W hy)
    clear EU EV SV ZU ZV HU HV HRR hy hx SG
    go_wp2_with fail
    (with_reducible refine (ZF.out _).mono ?_); rintro e w1 ⟨rfl, hb1⟩
    have KQ2 := Ho.mk (KQ.out.bel hb1)
    have KA2 := Ho.mk (KA1.out.bel hb1)
    have KZ2 := Ho.mk (KZ1.out.bel hb1)
    have HB2 := Ho.mk (HB1.out.trans hb1)
    clear y0q y1q y2q y0p y1p y2p hb1
    have y0q := KQ2.out.cell (i := 0) rfl
    have y1q := KQ2.out.cell (i := 1) rfl
    have y2q := KQ2.out.cell (i := 2) rfl
    go_wp2_with fail
    (with_reducible refine (Z.out _).mono ?_); rintro e w2 ⟨rfl, hb2⟩
    have KA3 := Ho.mk (KA2.out.bel hb2)
    have KZ3 := Ho.mk (KZ2.out.bel hb2)
    have HB3 := Ho.mk (HB2.out.trans hb2)
    clear y0q y1q y2q hb2
    have y0a := KA3.out.cell (i := 0) rfl
    have y1a := KA3.out.cell (i := 1) rfl
    have y2a := KA3.out.cell (i := 2) rfl
    go_wp2_with fail
    (with_reducible refine (SU.out _ HB3.out).mono ?_); rintro e w3 ⟨A2, c2, rfl, hc2, hr2, hb3⟩
    have KB2 := Ho.mk (KZ3.out.bel hb3)
    have HB4 := Ho.mk (HB3.out.trans hb3)
    have HR2 := Ho.mk hr2
    clear hr2 hb3 y0a y1a y2a
    have y0 := KB2.out.cell (i := 0) rfl
    have y1 := KB2.out.cell (i := 1) rfl
    have y2 := KB2.out.cell (i := 2) rfl
    have z0 := KB2.out.free 0
    have z1 := KB2.out.free 1
    have z2 := KB2.out.free 2
    go_wp2
    exact gives_end (fn := Tryd.f20) rfl rfl HB4.out (by omega) KB2.out HR2.out hc2
  have ZF0 := Ho.mk (fun (W : World) => zeroF_calls A0 c0 x n0 e0 W hx)
  have ZF1 := Ho.mk (fun (W : World) => zeroF_calls A1 c1 y n1 e1 W hy)
  clear EU EV SU SV ZU ZV hy hx
  go_wp2_with fail
  (with_reducible refine (ZF0.out _).mono ?_); rintro e w1 ⟨rfl, hb1⟩
  have KP2 := Ho.mk (KP.out.bel hb1)
  have KQ2 := Ho.mk (KQ.out.bel hb1)
  have KZ2 := Ho.mk (KZ1.out.bel hb1)
  have HB2 := Ho.mk (HB1.out.trans hb1)
  clear y0q y1q y2q y0p y1p y2p hb1 KP KQ KZ1 HB1 KA1 KC1
  have y0q := KQ2.out.cell (i := 0) rfl
  have y1q := KQ2.out.cell (i := 1) rfl
  have y2q := KQ2.out.cell (i := 2) rfl
  go_wp2_with fail
  (with_reducible refine (ZF1.out _).mono ?_); rintro e w2 ⟨rfl, hb2⟩
  have KP3 := Ho.mk (KP2.out.bel hb2)
  have KQ3 := Ho.mk (KQ2.out.bel hb2)
  have KZ3 := Ho.mk (KZ2.out.bel hb2)
  have HB3 := Ho.mk (HB2.out.trans hb2)
  clear y0q y1q y2q hb2 KP2 KQ2 KZ2 HB2
  have y0p := KP3.out.cell (i := 0) rfl
  have y1p := KP3.out.cell (i := 1) rfl
  have y2p := KP3.out.cell (i := 2) rfl
  have y0q := KQ3.out.cell (i := 0) rfl
  have y1q := KQ3.out.cell (i := 1) rfl
  have y2q := KQ3.out.cell (i := 2) rfl
  obtain ⟨em, hem⟩ : ∃ em : Int, em = min e0 e1 := ⟨_, rfl⟩
  obtain ⟨k0, hk0⟩ := Int.eq_ofNat_of_zero_le (show 0 ≤ e0 - em by omega)
  obtain ⟨k1, hk1⟩ := Int.eq_ofNat_of_zero_le (show 0 ≤ e1 - em by omega)
  have hk05 : k0 ≤ 40000 := by omega
  have hk15 : k1 ≤ 40000 := by omega
  have hem0 : -20000 ≤ em := by omega
  have hem1 : em ≤ 20000 := by omega
  go_upto_region 2 with fail
  go_cut [7] (fun s7 wx => s7 = .int .i64 em ∧ w2 = wx)
  case first =>
    rcases Int.lt_or_le e1 e0 with hlt | hlt
    · obtain rfl : em = e1 := by omega
      clear hem
      go_wp2_with fail
      go_meet
      exact ⟨rfl, rfl⟩
    · obtain rfl : em = e0 := by omega
      clear hem
      go_wp2_with fail
      go_meet
      exact ⟨rfl, rfl⟩
  obtain ⟨rfl, rfl⟩ := hcut
  have hM : (digs (x * 2 ^ k0)).length ≤ 2700 := by
    have := D4.len_mul (x := x) (y := 2 ^ k0) hl0 (D6.len_p2 k0)
    omega
  have hN : (digs (y * 2 ^ k1)).length ≤ 2700 := by
    have := D4.len_mul (x := y) (y := 2 ^ k1) hl1 (D6.len_p2 k1)
    omega
  have RX := Ho.mk (fun (W : World) (g : Bel w W) => raised_calls A0 c0 x k0 n0 e0 em W (H0.out.bel g) HC0.out (by omega) hk0 (by omega) (by omega) (by omega) (by omega) (by omega))
  have RY := Ho.mk (fun (W : World) (g : Bel w W) => raised_calls A1 c1 y k1 n1 e1 em W (H1.out.bel g) HC1.out (by omega) hk1 (by omega) (by omega) (by omega) (by omega) (by omega))
  have HU2 : Ho (sc n0 (x * 2 ^ k0) em = u) := ⟨by rw [sc_down _ _ _ _ (by unfold K; omega), show em + k0 = e0 from by omega]; exact HU.out⟩
  have HV2 : Ho (sc n1 (y * 2 ^ k1) em = v) := ⟨by rw [sc_down _ _ _ _ (by unfold K; omega), show em + k1 = e1 from by omega]; exact HV.out⟩
  clear hem hk0 hk1 HU HV H0 H1 HC0 HC1 ZF0 ZF1 SG
  generalize x * 2 ^ k0 = M at *
  generalize y * 2 ^ k1 = N at *
  go_upto_region 3 with fail
  go_cut [8, 9] (fun s8 s9 wx => ∃ (B0 B1 : Option Addr) (d0 d1 : Nat), s8 = .slice B0 (digs M).length d0 ∧ s9 = .slice B1 (digs N).length d1 ∧ Ho ((digs M).length ≤ d0) ∧ Ho ((digs N).length ≤ d1) ∧ Ho (Rd wx B0 (digs M)) ∧ Ho (Rd wx B1 (digs N)) ∧ Ho (Bel w2 wx))
  case first =>
    go_region_held3 (fun w' => w'.cell? ⟨p, 0, none⟩ = some (.bool n0) ∧ w'.cell? ⟨p, 1, none⟩ = some (.slice A0 (digs x).length c0) ∧ w'.cell? ⟨p, 2, none⟩ = some (.int .i64 e0) ∧ w'.cell? ⟨q, 0, none⟩ = some (.bool n1) ∧ w'.cell? ⟨q, 1, none⟩ = some (.slice A1 (digs y).length c1) ∧ w'.cell? ⟨q, 2, none⟩ = some (.int .i64 e1))
      (first
        | go_keep
        | (go_split_ands
           refine ⟨?_, ?_, ?_, ?_, ?_, ?_⟩ <;> (apply Bel.cell (by assumption); assumption))
        | (all_goals (go_split_ands; apply Bel.cell (by assumption); assumption)))
      (first
        | (go_at_call 54; (with_reducible refine (RX.out _ (by first | exact HB3.out.drew | (refine Bel.trans HB3.out ?_; refine Bel.trans (Bel.refl _).drew ?_; assumption))).mono ?_); rintro e wa ⟨B0, d0, rfl, hB0, hr0, hba⟩)
        | (go_at_call 54; (with_reducible refine (RY.out _ (by first | exact HB3.out.drew | (refine Bel.trans HB3.out ?_; refine Bel.trans (Bel.refl _).drew ?_; assumption))).mono ?_); rintro e wb ⟨B1, d1, rfl, hB1, hr1, hbb⟩))
    all_goals (go_wp2_with fail; go_meet)
    exact ⟨B0, B1, d0, d1, rfl, rfl, ⟨hB0⟩, ⟨hB1⟩, ⟨hr0.bel hbb⟩, ⟨hr1⟩, ⟨(Bel.refl _).drew.trans (hba.trans hbb)⟩⟩
  obtain ⟨B0, B1, d0, d1, rfl, rfl, HB0, HB1, HR0, HR1, HBB⟩ := hcut
  have KP4 := Ho.mk (KP3.out.bel HBB.out)
  have KQ4 := Ho.mk (KQ3.out.bel HBB.out)
  have KZ4 := Ho.mk (KZ3.out.bel HBB.out)
  have HB4 := Ho.mk (HB3.out.trans HBB.out)
  clear RX RY y0p y1p y2p y0q y1q y2q KP3 KQ3 KZ3 HB3 HBB hl0 hl1
  have u0 := KP4.out.cell (i := 0) rfl
  have u1 := KQ4.out.cell (i := 0) rfl
  by_cases hs : n1 = n0
  · subst hs
    have hnn : (n1 == n1) = true := by simp
    have HVV : Ho (sc n1 (M + N) em = r) := ⟨by rw [sc_add, HU2.out, HV2.out]; exact HRR.out⟩
    have hMN : (digs (M + N)).length ≤ 4000 := Nat.le_trans (len_add1 hM hN) (by omega)
    have S3 := Ho.mk (fun (W : World) (g : Bel _ W) => N4.add_calls B0 B1 d0 d1 M N W (HR0.out.bel g) HB0.out (HR1.out.bel g) HB1.out (by omega) (by omega))
    have S4 := Ho.mk (fun (A : Option Addr) (c : Nat) (W : World) (gb : Bel w W) (g : Rd W A (digs (M + N))) (hc : (digs (M + N)).length ≤ c) => make_calls A c (M + N) n1 em W (TT.out.bel gb) g hc hMN (by omega) (by omega))
    rw [HVV.out] at S4
    clear HU2 HV2 HRR HVV hM hN hMN
    generalize M + N = MN at *
    have nn := blk_ne KP4.out KZ4.out (by decide)
    have nn2 : ¬ (w.heap.size + 1 + 1 = p) := fun e => nn e.symm
    go_wp2_with fail
    clear u1
    go_region_held3 (fun w' => w'.cell? ⟨p, 0, none⟩ = some (.bool n1))
      (first
        | go_keep
        | (apply Bel.cell (by assumption); assumption))
      (first
        | (go_at_call 55; refine (S3.out _ (Bel.refl _).drew).mono ?_; rintro e w3 ⟨A4, c4, rfl, hc4, hr4, hb4⟩)
        | (go_at_call 36; refine (S4.out _ _ _ (HB4.out.trans ((Bel.refl _).drew.trans hb4)) hr4 hc4).mono ?_; rintro e w4 ⟨A5, c5, rfl, hc5, hr5, hb5⟩
           have KB2 := Ho.mk (KZ4.out.bel ((Bel.refl _).drew.trans (hb4.trans hb5)))
           have HB5 := Ho.mk (HB4.out.trans ((Bel.refl _).drew.trans (hb4.trans hb5)))
           have y0 := KB2.out.cell (i := 0) rfl
           have y1 := KB2.out.cell (i := 1) rfl
           have y2 := KB2.out.cell (i := 2) rfl
           have z0 := KB2.out.free 0
           have z1 := KB2.out.free 1
           have z2 := KB2.out.free 2))
    have HR5 := Ho.mk hr5
    clear hr5 hr4 hb4 hb5
    go_wp2
    exact gives_end (fn := Tryd.f20) rfl rfl HB5.out (by omega) KB2.out HR5.out hc5
  have hs' : n1 = !n0 := by cases n0 <;> cases n1 <;> simp at hs ⊢
  have hnn : (n0 == n1) = false := by rw [hs']; cases n0 <;> rfl
  rcases Nat.lt_or_ge M N with hMN | hMN
  · have HVV : Ho (sc n1 (N - M) em = r) := ⟨by rw [sc_sub _ _ _ _ (by omega), HV2.out, hs', Bool.not_not, HU2.out, ← HRR.out, Int.add_comm]⟩
    have hl := Ho.mk (Nat.le_trans (digs_len_mono (Nat.sub_le N M)) hN)
    have S2 := Ho.mk (N5.subNo_calls B0 B1 d0 d1 M N _ HR0.out HR1.out hMN)
    have S3 := Ho.mk (fun (W : World) (g : Bel _ W) => N5.sub_calls B1 B0 d1 d0 N M W (HR1.out.bel g) HB1.out (HR0.out.bel g) HB0.out (by omega) (by omega))
    have S4 := Ho.mk (fun (A : Option Addr) (c : Nat) (W : World) (gb : Bel w W) (g : Rd W A (digs (N - M))) (hc : (digs (N - M)).length ≤ c) => make_calls A c (N - M) n1 em W (TT.out.bel gb) g hc (Nat.le_trans hl.out (by omega)) (by omega) (by omega))
    rw [HVV.out] at S4
    clear HU2 HV2 HRR HVV hM hN hMN hs hs' hl
    generalize N - M = MN at *
    go_wp2_with fail
    (with_reducible refine (S2.out).mono ?_); rintro e w3 ⟨rfl, hb3⟩
    have KQ5 := Ho.mk (KQ4.out.bel hb3)
    have KZ5 := Ho.mk (KZ4.out.bel hb3)
    have HB5 := Ho.mk (HB4.out.trans hb3)
    have S33 := Ho.mk (S3.out _ hb3)
    clear u0 u1 hb3
    go_wp2_with fail
    (with_reducible refine (S33.out).mono ?_); rintro e w4 ⟨A4, c4, rfl, hc4, hr4, hb4⟩
    have KQ6 := Ho.mk (KQ5.out.bel hb4)
    have KZ6 := Ho.mk (KZ5.out.bel hb4)
    have HB6 := Ho.mk (HB5.out.trans hb4)
    have u1 := KQ6.out.cell (i := 0) rfl
    have HR4 := Ho.mk hr4
    clear hb4 hr4
    go_wp2_with fail
    (with_reducible refine (S4.out _ _ _ HB6.out HR4.out hc4).mono ?_); rintro e w5 ⟨A5, c5, rfl, hc5, hr5, hb5⟩
    have KB2 := Ho.mk (KZ6.out.bel hb5)
    have HB7 := Ho.mk (HB6.out.trans hb5)
    have HR5 := Ho.mk hr5
    clear u1 hr5 hb5
    have y0 := KB2.out.cell (i := 0) rfl
    have y1 := KB2.out.cell (i := 1) rfl
    have y2 := KB2.out.cell (i := 2) rfl
    have z0 := KB2.out.free 0
    have z1 := KB2.out.free 1
    have z2 := KB2.out.free 2
    go_wp2
    exact gives_end (fn := Tryd.f20) rfl rfl HB7.out (by omega) KB2.out HR5.out hc5
  · have HVV : Ho (sc n0 (M - N) em = r) := ⟨by rw [sc_sub _ _ _ _ (by omega), HU2.out, ← hs', HV2.out]; exact HRR.out⟩
    have hl := Ho.mk (Nat.le_trans (digs_len_mono (Nat.sub_le M N)) hM)
    have S2 := Ho.mk (N5.sub_calls B0 B1 d0 d1 M N _ HR0.out HB0.out HR1.out HB1.out (by omega) (by omega))
    have S4 := Ho.mk (fun (A : Option Addr) (c : Nat) (W : World) (gb : Bel w W) (g : Rd W A (digs (M - N))) (hc : (digs (M - N)).length ≤ c) => make_calls A c (M - N) n0 em W (TT.out.bel gb) g hc (Nat.le_trans hl.out (by omega)) (by omega) (by omega))
    rw [HVV.out] at S4
    clear HU2 HV2 HRR HVV hM hN hMN hs hs' hl
    generalize M - N = MN at *
    go_wp2_with fail
    (with_reducible refine (S2.out).mono ?_); rintro e w4 ⟨A4, c4, rfl, hc4, hr4, hb4⟩
    have KP6 := Ho.mk (KP4.out.bel hb4)
    have KZ6 := Ho.mk (KZ4.out.bel hb4)
    have HB6 := Ho.mk (HB4.out.trans hb4)
    clear u0 u1
    have u0 := KP6.out.cell (i := 0) rfl
    have HR4 := Ho.mk hr4
    clear hb4 hr4
    go_wp2_with fail
    (with_reducible refine (S4.out _ _ _ HB6.out HR4.out hc4).mono ?_); rintro e w5 ⟨A5, c5, rfl, hc5, hr5, hb5⟩
    have KB2 := Ho.mk (KZ6.out.bel hb5)
    have HB7 := Ho.mk (HB6.out.trans hb5)
    have HR5 := Ho.mk hr5
    clear u0 hr5 hb5
    have y0 := KB2.out.cell (i := 0) rfl
    have y1 := KB2.out.cell (i := 1) rfl
    have y2 := KB2.out.cell (i := 2) rfl
    have z0 := KB2.out.free 0
    have z1 := KB2.out.free 1
    have z2 := KB2.out.free 2
    go_wp2
    exact gives_end (fn := Tryd.f20) rfl rfl HB7.out (by omega) KB2.out HR5.out hc5
end Go.Proofs.YtnmjnjhijcnbcaaDoor.E4
