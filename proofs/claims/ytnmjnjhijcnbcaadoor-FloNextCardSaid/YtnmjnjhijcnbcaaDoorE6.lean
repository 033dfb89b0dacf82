/-
  The walk of package dya: Cut.
-/
import Derived.Test.YtnmjnjhijcnbcaaDoorE5
import Derived.Test.YtnmjnjhijcnbcaaDoorD9
import Derived.Deep.RegionHeld3
set_option linter.unusedVariables false
set_option linter.unusedSimpArgs false
namespace Go.Proofs.YtnmjnjhijcnbcaaDoor.E6
open Go Go.RowKit Go.Proofs.YtnmjnjhijcnbcaaDoor Go.Proofs.YtnmjnjhijcnbcaaDoor.Ow Go.Proofs.YtnmjnjhijcnbcaaDoor.Pl Go.Proofs.YtnmjnjhijcnbcaaDoor.Dp Go.Proofs.YtnmjnjhijcnbcaaDoor.Dt Go.Proofs.YtnmjnjhijcnbcaaDoor.D3 Go.Proofs.YtnmjnjhijcnbcaaDoor.E1 Go.Proofs.YtnmjnjhijcnbcaaDoor.E2 Go.Proofs.YtnmjnjhijcnbcaaDoor.D9

theorem more_calls (A : Option Addr) (c y b0 b1 : Nat) (up n : Bool) (s e : Value) (w : World) (h : Rd w A (digs y)) (hc : (digs y).length ≤ c) (hq : (digs y).length ≤ 1000)
    (K0 : Blk w b0 24 [.bool n, s, e]) (K1 : Blk w b1 4 [.bool up]) :
    Calls Tryd.prog 64 #[.slice A (digs y).length c, .pointer (some ⟨b1, 0, none⟩), .pointer (some ⟨b0, 0, none⟩)] w (Row w (y + (if up = n then 0 else 1))) := by
  have x0 := K0.cell (i := 0) rfl
  have x1 := K1.cell (i := 0) rfl
  by_cases hup : up = n
  · rw [if_pos hup, Nat.add_zero]
    have hne : (up == n) = true := by rw [hup]; simp
    have H := Ho.mk h
    have HC := Ho.mk hc
    clear hup h hc K0 K1
    go_enter Tryd.func64, Tryd.ntmps64
    go_wp2
    go_ret
    exact ⟨A, c, rfl, HC.out, H.out, Bel.refl _⟩
  · rw [if_neg hup]
    have hne : (up == n) = false := beq_eq_false_iff_ne.mpr hup
    have OF := Ho.mk (fun (W : World) => R2.natOf_calls 1 1 W rfl (by decide))
    have AD := Ho.mk (fun (A1 : Option Addr) (c1 : Nat) (W : World) (g : Bel w W) (g1 : Rd W A1 (digs 1)) (hc1 : (digs 1).length ≤ c1) => N4.add_calls A A1 c c1 y 1 W (h.bel g) hc g1 hc1 (by omega) (by rw [digs_one]; decide))
    clear hup h hc K0 K1
    generalize digs y = l at *
    generalize y + 1 = y1 at *
    go_enter Tryd.func64, Tryd.ntmps64
    go_wp2_with fail
    (with_reducible refine (OF.out _).mono ?_); rintro r w1 ⟨A1, c1, rfl, hc1, hr1, hb1⟩
    go_wp2_with fail
    (with_reducible refine (AD.out _ _ _ hb1 hr1 hc1).mono ?_); rintro r w2 ⟨A2, c2, rfl, hc2, hr2, hb2⟩
    have HB := Ho.mk (hb1.trans hb2)
    have HR := Ho.mk hr2
    clear hb1 hb2 hr1 hr2 x0 x1
    go_wp2
    go_ret
    exact ⟨A2, c2, rfl, hc2, HR.out, HB.out⟩
set_option maxRecDepth 100000 in
set_option maxHeartbeats 2000000 in
theorem cut_calls (A : Option Addr) (c n : Nat) (up : Bool) (v : Int) (w : World) (T : Tab w) (h : Rd w A (digs (dm v))) (hc : (digs (dm v)).length ≤ c) (hl : (digs (dm v)).length ≤ 1000) (b0 : -20000 ≤ de v) (b1 : de v ≤ 20000) (hn : n ≤ 20000) :
    Calls Tryd.prog 32 #[.agg #[.bool (dneg v), .slice A (digs (dm v)).length c, .int .i64 (de v)], .int .i64 (n : Int), .bool up] w (Gives w (cutV v n up)) := by
  have hbl : blen (dm v) ≤ 24000 := by have := D2.blen_len (dm v); omega
  have LN := Ho.mk (fun (W : World) (g : Bel w W) => N6.natLen_calls A c (dm v) W (h.bel g))
  have HB := Ho.mk ((((Bel.refl w).alloc (.cells #[.bool (dneg v), .slice A (digs (dm v)).length c, .int .i64 (de v)] 24)).alloc (.cells #[.bool up] 4)).alloc (.cells #[.bool false, .slice none 0 0, .int .i64 0] 24))
  have KA := Ho.mk (((Blk.new w [.bool (dneg v), .slice A (digs (dm v)).length c, .int .i64 (de v)] 24).old (.cells #[.bool up] 4)).old (.cells #[.bool false, .slice none 0 0, .int .i64 0] 24))
  have KU := Ho.mk ((Blk.new (w.alloc (.cells #[.bool (dneg v), .slice A (digs (dm v)).length c, .int .i64 (de v)] 24)) [.bool up] 4).old (.cells #[.bool false, .slice none 0 0, .int .i64 0] 24))
  have KZ := Ho.mk (Blk.new ((w.alloc (.cells #[.bool (dneg v), .slice A (digs (dm v)).length c, .int .i64 (de v)] 24)).alloc (.cells #[.bool up] 4)) [.bool false, .slice none 0 0, .int .i64 0] 24)
  rw [World.size_alloc] at KU
  rw [World.size_alloc, World.size_alloc] at KZ
  rcases Nat.lt_or_ge n (blen (dm v)) with hk | hk
  · obtain ⟨k, hkk⟩ : ∃ k, k = blen (dm v) - n := ⟨_, rfl⟩
    have HE : Ho (cutV v n up = sc (dneg v) (dm v / 2 ^ k + (if up = dneg v then 0 else 1)) (de v + k)) := ⟨by unfold cutV; rw [if_neg (by omega), ← hkk]; rfl⟩
    have hq : (digs (dm v / 2 ^ k)).length ≤ 1000 := Nat.le_trans (digs_len_mono (Nat.div_le_self _ _)) hl
    have hq2 : (digs (dm v / 2 ^ k + (if up = dneg v then 0 else 1))).length ≤ 1001 := len_add1 hq (by split <;> first | (rw [digs_zero]; decide) | (rw [digs_one]; decide))
    have SH := Ho.mk (fun (W : World) (g : Bel w W) => Na.shr_calls A c (dm v) k (k : Int) W (h.bel g) hc (by omega) (Int.toNat_natCast _).symm (by omega))
    have MO := Ho.mk (fun (A' : Option Addr) (c' : Nat) (W : World) (g : Rd W A' (digs (dm v / 2 ^ k))) (hc' : (digs (dm v / 2 ^ k)).length ≤ c') (K0 : Blk W w.heap.size 24 [.bool (dneg v), .slice A (digs (dm v)).length c, .int .i64 (de v)]) (K1 : Blk W (w.heap.size + 1) 4 [.bool up]) => more_calls A' c' (dm v / 2 ^ k) w.heap.size (w.heap.size + 1) up (dneg v) _ _ W g hc' hq K0 K1)
    have MK := Ho.mk (fun (A : Option Addr) (c : Nat) (W : World) (gb : Bel w W) (g : Rd W A (digs (dm v / 2 ^ k + (if up = dneg v then 0 else 1)))) (hc : (digs (dm v / 2 ^ k + (if up = dneg v then 0 else 1))).length ≤ c) => make_calls A c (dm v / 2 ^ k + (if up = dneg v then 0 else 1)) (dneg v) (de v + k) W (T.bel gb) g hc (by omega) (by omega) (by omega))
    have hsub : (blen (dm v) : Int) - (n : Int) = (k : Int) := by omega
    have hkpos : 0 < (k : Int) := by omega
    have hk5 : (k : Int) ≤ 24000 := by omega
    rw [HE.out]
    clear hkk hk HE h hc hl hq hq2 T
    generalize sc (dneg v) (dm v / 2 ^ k + (if up = dneg v then 0 else 1)) (de v + k) = r at *
    generalize dm v / 2 ^ k + (if up = dneg v then 0 else 1) = z at *
    generalize dm v / 2 ^ k = y at *
    generalize blen (dm v) = bl at *
    generalize digs (dm v) = l at *
    generalize dneg v = n0 at *
    generalize de v = e0 at *
    have q1 : IntKind.i64.wrap (e0 + (k : Int)) = e0 + (k : Int) := IntWalk.i64_in _ (by omega)
    go_enter Tryd.func32, Tryd.ntmps32
    go_wp2_with fail
    (with_reducible refine (LN.out _ HB.out).mono ?_); rintro e w1 ⟨rfl, rfl⟩
    go_wp2_with fail
    have hZ : (((w.alloc (.cells #[.bool n0, .slice A l.length c, .int .i64 e0] 24)).alloc (.cells #[.bool up] 4)).alloc (.cells #[.bool false, .slice none 0 0, .int .i64 0] 24)) = (((w.alloc (.cells #[.bool n0, .slice A l.length c, .int .i64 e0] 24)).alloc (.cells #[.bool up] 4)).alloc (.cells #[.bool false, .slice none 0 0, .int .i64 0] 24)) := rfl
    generalize (((w.alloc (.cells #[.bool n0, .slice A l.length c, .int .i64 e0] 24)).alloc (.cells #[.bool up] 4)).alloc (.cells #[.bool false, .slice none 0 0, .int .i64 0] 24)) = w0 at *
    clear hZ
    have y0a := KA.out.cell (i := 0) rfl
    have y1a := KA.out.cell (i := 1) rfl
    have y2a := KA.out.cell (i := 2) rfl
    have nn := D4.ne2 w.heap.size
    have nn2 : ¬ (w.heap.size + 1 + 1 = w.heap.size) := fun q => D4.ne2 w.heap.size q.symm
    go_region_held3 (fun w' => w'.cell? ⟨w.heap.size, 0, none⟩ = some (.bool n0) ∧ w'.cell? ⟨w.heap.size, 1, none⟩ = some (.slice A l.length c) ∧ w'.cell? ⟨w.heap.size, 2, none⟩ = some (.int .i64 e0))
      (first
        | go_keep
        | (go_split_ands
           refine ⟨?_, ?_, ?_⟩ <;> (apply Bel.cell (by assumption); assumption))
        | (all_goals (go_split_ands; apply Bel.cell (by assumption); assumption)))
      (first
        | (go_at_call 66; (with_reducible refine (SH.out _ HB.out.drew).mono ?_); rintro e w2 ⟨A2, c2, rfl, hc2, hr2, hb2⟩)
        | ((with_reducible refine (MO.out _ _ _ hr2 hc2 (KA.out.bel ((Bel.refl _).drew.trans hb2)) (KU.out.bel ((Bel.refl _).drew.trans hb2))).mono ?_); rintro e w3 ⟨A3, c3, rfl, hc3, hr3, hb3⟩)
        | (go_at_call 36; (with_reducible refine (MK.out _ _ _ (HB.out.drew.trans (hb2.trans hb3)) hr3 hc3).mono ?_); rintro e w4 ⟨A4, c4, rfl, hc4, hr4, hb4⟩
           have KB2 := Ho.mk (KZ.out.bel ((Bel.refl _).drew.trans (hb2.trans (hb3.trans hb4))))
           have HB4 := Ho.mk (HB.out.trans ((Bel.refl _).drew.trans (hb2.trans (hb3.trans hb4))))
           have y0 := KB2.out.cell (i := 0) rfl
           have y1 := KB2.out.cell (i := 1) rfl
           have y2 := KB2.out.cell (i := 2) rfl
           have z0 := KB2.out.free 0
           have z1 := KB2.out.free 1
           have z2 := KB2.out.free 2))
    have HR4 := Ho.mk hr4
    clear hr4 hr3 hr2 hb2 hb3 hb4
    go_wp2
    exact gives_end (fn := Tryd.f32) rfl rfl HB4.out (by omega) KB2.out HR4.out hc4
  · have HE : Ho (cutV v n up = v) := ⟨by unfold cutV; rw [if_pos hk]⟩
    rw [HE.out]
    have hsub : (blen (dm v) : Int) ≤ (n : Int) := by omega
    have SH := Ho.mk (fun (W : World) (g : Bel w W) => shift_calls A c v 0 W (T.bel g) (h.bel g) hc (by omega) b0 b1 (by omega) (by omega))
    rw [Int.add_zero, sc_self] at SH
    clear HE hk h hc T hl
    generalize blen (dm v) = bl at *
    generalize digs (dm v) = l at *
    generalize dneg v = n0 at *
    generalize de v = e0 at *
    go_enter Tryd.func32, Tryd.ntmps32
    go_wp2_with fail
    (with_reducible refine (LN.out _ HB.out).mono ?_); rintro e w1 ⟨rfl, rfl⟩
    go_wp2_with fail
    (with_reducible refine (SH.out _ HB.out).mono ?_); rintro e w2 ⟨A4, c4, rfl, hc4, hr4, hb4⟩
    have KB2 := Ho.mk (KZ.out.bel hb4)
    have HB4 := Ho.mk (HB.out.trans hb4)
    have HR4 := Ho.mk hr4
    clear hr4 hb4
    have y0 := KB2.out.cell (i := 0) rfl
    have y1 := KB2.out.cell (i := 1) rfl
    have y2 := KB2.out.cell (i := 2) rfl
    have z0 := KB2.out.free 0
    have z1 := KB2.out.free 1
    have z2 := KB2.out.free 2
    go_wp2
    exact gives_end (fn := Tryd.f32) rfl rfl HB4.out (by omega) KB2.out HR4.out hc4
end Go.Proofs.YtnmjnjhijcnbcaaDoor.E6
