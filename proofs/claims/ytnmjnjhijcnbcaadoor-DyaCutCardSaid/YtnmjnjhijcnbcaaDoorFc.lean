/-
  The walk of DyaCut (its steps are printed by gen2.py).
-/
import Derived.Test.YtnmjnjhijcnbcaaDoorF3
import Derived.Test.YtnmjnjhijcnbcaaDoorF2
import Derived.Test.YtnmjnjhijcnbcaaDoorF6
import Derived.Deep.RegionHeld3
import Derived.Deep.DrawnRows
import Derived.Deep.DeepCutAuto
set_option linter.unusedVariables false
set_option linter.unusedSimpArgs false
namespace Go.Proofs.YtnmjnjhijcnbcaaDoor.Fc
open Go Go.RowKit Go.Proofs.YtnmjnjhijcnbcaaDoor Go.Proofs.YtnmjnjhijcnbcaaDoor.Ow Go.Proofs.YtnmjnjhijcnbcaaDoor.Pl Go.Proofs.YtnmjnjhijcnbcaaDoor.Dp Go.Proofs.YtnmjnjhijcnbcaaDoor.Dt Go.Proofs.YtnmjnjhijcnbcaaDoor.D3 Go.Proofs.YtnmjnjhijcnbcaaDoor.E7 Go.Proofs.YtnmjnjhijcnbcaaDoor.F1

theorem wLenN {w : World} {A : Option Addr} {c x b : Nat} (h : Nv w A c x b) {r : Int} (hr : (blen x : Int) = r) : Calls Tryd.prog 38 #[.slice A (digs x).length c] w (Tells w (.int .i64 r)) := by
  subst hr
  exact (R3.len_calls A c x w h.rd).mono fun e w' ⟨he, hw⟩ => ⟨he, hw ▸ Bel.refl _⟩
theorem ordA (w : World) (cs : List Value) :
    Blk ((w.alloc (.cells cs.toArray 24)).alloc (.cells #[.int .i64 1] 3)).drew w.heap.size 24 cs ∧ Rd ((w.alloc (.cells cs.toArray 24)).alloc (.cells #[.int .i64 1] 3)).drew (some ⟨w.heap.size + 1, 0, none⟩) [1] ∧ Bel w ((w.alloc (.cells cs.toArray 24)).alloc (.cells #[.int .i64 1] 3)).drew := by
  refine ⟨((Blk.new w cs _).old _).drew, ?_, (((Bel.refl w).alloc _).alloc _).drew⟩
  have := (F0.litRd (w.alloc (.cells cs.toArray 24)) 1).bel (Bel.refl _).drew
  rwa [World.size_alloc] at this
theorem ordB (w : World) (cs : List Value) :
    Blk ((w.alloc (.cells #[.int .i64 1] 3)).alloc (.cells cs.toArray 24)).drew (w.heap.size + 1) 24 cs ∧ Rd ((w.alloc (.cells #[.int .i64 1] 3)).alloc (.cells cs.toArray 24)).drew (some ⟨w.heap.size, 0, none⟩) [1] ∧ Bel w ((w.alloc (.cells #[.int .i64 1] 3)).alloc (.cells cs.toArray 24)).drew := by
  refine ⟨?_, (F0.litRd w 1).bel ((Bel.refl _).alloc _).drew, (((Bel.refl w).alloc _).alloc _).drew⟩
  have := (Blk.new (w.alloc (.cells #[.int .i64 1] 3)) cs 24).drew
  rwa [World.size_alloc] at this
theorem cut_good {w : World} (n0 : Bool) {A0 : Option Addr} (c0 : Nat) {l0 : List Int} (e0 : Int) (h0 : Rd w A0 l0) (W : World) (g : Bel w W) :
    Calls Tryd.prog 18 #[.slice (some ⟨W.heap.size, 0, none⟩) 1 1] (W.alloc (.cells #[.bool n0, .slice A0 l0.length c0, .int .i64 e0] 24)) (Tells (W.alloc (.cells #[.bool n0, .slice A0 l0.length c0, .int .i64 e0] 24)) (.bool (([⟨n0, A0, c0, l0, e0⟩] : List F2.DRow).all F2.goodB))) :=
  F2.good_calls W.heap.size 1 [⟨n0, A0, c0, l0, e0⟩] _ rfl (by decide) (Blk.new W [.bool n0, .slice A0 l0.length c0, .int .i64 e0] 24) (by
    intro r hr
    simp only [List.mem_cons, List.not_mem_nil, or_false] at hr
    subst hr
    exact (h0.bel g).bel ((Bel.refl _).alloc _))
theorem no_calls (n0 : Bool) (A0 : Option Addr) (c0 : Nat) (l0 : List Int) (e0 : Int) (a1 : Int) (w : World) (T : Tab w) (h0 : Rd w A0 l0) (hg : (([⟨n0, A0, c0, l0, e0⟩] : List F2.DRow).all F2.goodB) = false) :
    Calls Tryd.prog 6 #[.agg #[.bool n0, .slice A0 l0.length c0, .int .i64 e0], .int .u8 a1] w (Tells w (.bool true)) := by
  have TT := Ho.mk T
  have HG := Ho.mk (cut_good n0 c0 e0 h0)
  rw [hg] at HG
  clear hg
  go_enter Tryd.func6, Tryd.ntmps6
  go_wp2_with fail
  have KB0 := Ho.mk (Blk.new w [.bool n0, .slice A0 l0.length c0, .int .i64 e0] 24)
  have g0 := (Bel.refl w).alloc (.cells #[.bool n0, .slice A0 l0.length c0, .int .i64 e0] 24)
  have hZ : (w.alloc (.cells #[.bool n0, .slice A0 l0.length c0, .int .i64 e0] 24)) = (w.alloc (.cells #[.bool n0, .slice A0 l0.length c0, .int .i64 e0] 24)) := rfl
  generalize (w.alloc (.cells #[.bool n0, .slice A0 l0.length c0, .int .i64 e0] 24)) = w0 at *
  clear hZ
  (with_reducible refine (F3.head_calls _ (TT.out.bel g0)).mono ?_); rintro e w1 ⟨rfl, b1⟩
  have K0_1 := Ho.mk (KB0.out.bel b1)
  have y0_0 := K0_1.out.cell (i := 0) rfl
  have y0_1 := K0_1.out.cell (i := 1) rfl
  have y0_2 := K0_1.out.cell (i := 2) rfl
  go_wp2_with fail
  (with_reducible refine (HG.out _ (g0.trans b1)).mono ?_); rintro e w2 ⟨rfl, b2⟩
  have HE := Ho.mk (g0.trans ((b1.alloc _).trans b2))
  go_wp2
  go_ret
  exact ⟨rfl, HE.out⟩
set_option maxRecDepth 100000 in
set_option maxHeartbeats 8000000 in
theorem few_calls (A0 : Option Addr) (c0 : Nat) (v0 : Int) (a1 : Int) (kn : Nat) (w : World) (T : Tab w) (p0 : Dv w A0 c0 v0 200 392) (len0 : (digs (dm v0)).length ≤ 8) (hb : 0 ≤ a1 ∧ a1 ≤ 255) (hkn : a1 % 40 + 1 = (kn : Int)) (hk1 : 1 ≤ kn) (hk2 : kn ≤ 40) (hf : blen (dm v0) ≤ kn) (hg : (([⟨dneg v0, A0, c0, digs (dm v0), de v0⟩] : List F2.DRow).all F2.goodB) = true) :
    Calls Tryd.prog 6 #[.agg #[.bool (dneg v0), .slice A0 (digs (dm v0)).length c0, .int .i64 (de v0)], .int .u8 a1] w (Tells w (.bool true)) := by
  have TT := Ho.mk T
  have HG := Ho.mk (cut_good (dneg v0) c0 (de v0) p0.rd)
  rw [hg] at HG
  obtain ⟨bl, hbl⟩ : ∃ bl : Int, (blen (dm v0) : Int) = bl := ⟨_, rfl⟩
  obtain ⟨bl0, hbl0⟩ : ∃ bl : Int, (blen (dm (cutV v0 kn false)) : Int) = bl := ⟨_, rfl⟩
  obtain ⟨bl1, hbl1⟩ : ∃ bl : Int, (blen (dm (cutV v0 kn true)) : Int) = bl := ⟨_, rfl⟩
  have hb0 := cut_len v0 kn false hk1
  have hb1 := cut_len v0 kn true hk1
  have hbb : bl ≤ 192 := by
    rw [← hbl]
    have := D2.blen_len (dm v0)
    omega
  have hbn : 0 ≤ bl := by omega
  have d0 : decide ((kn : Int) < bl0) = false := decide_eq_false (by omega)
  have d1 : decide ((kn : Int) < bl1) = false := decide_eq_false (by omega)
  have HB0 := Ho.mk hbl0
  have HB1 := Ho.mk hbl1
  have HL0 := Ho.mk (F6.cut_limbs v0 kn false hk1 hk2)
  have HL1 := Ho.mk (F6.cut_limbs v0 kn true hk1 hk2)
  have HBL := Ho.mk hbl
  have HS0 := Ho.mk (F6.cut_same (up := false) hf)
  have HS1 := Ho.mk (F6.cut_same (up := true) hf)
  obtain ⟨r0, hr0⟩ : ∃ r, cmpI (cutV v0 kn false) v0 = r := ⟨_, rfl⟩
  obtain ⟨r1, hr1⟩ : ∃ r, cmpI (cutV v0 kn true) v0 = r := ⟨_, rfl⟩
  have hc := F6.cut_cmp v0 kn
  rw [hr0, hr1] at hc
  have d2 : decide (0 < r0) = false := decide_eq_false (by omega)
  have d3 : decide (r1 < 0) = false := decide_eq_false (by omega)
  have d4 : decide (bl ≤ (kn : Int)) = true := decide_eq_true (by omega)
  have HR0 := Ho.mk hr0
  have HR1 := Ho.mk hr1
  clear hbl hbl0 hbl1 hb0 hb1 hr0 hr1 hc hf
  have hb00 := hb.1
  have hb01 := hb.2
  clear T hg hb
  go_enter Tryd.func6, Tryd.ntmps6
  go_wp2_with fail
  have KB0 := Ho.mk (Blk.new w [.bool (dneg v0), .slice A0 (digs (dm v0)).length c0, .int .i64 (de v0)] 24)
  have g0 := (Bel.refl w).alloc (.cells #[.bool (dneg v0), .slice A0 (digs (dm v0)).length c0, .int .i64 (de v0)] 24)
  have hZ : (w.alloc (.cells #[.bool (dneg v0), .slice A0 (digs (dm v0)).length c0, .int .i64 (de v0)] 24)) = (w.alloc (.cells #[.bool (dneg v0), .slice A0 (digs (dm v0)).length c0, .int .i64 (de v0)] 24)) := rfl
  generalize (w.alloc (.cells #[.bool (dneg v0), .slice A0 (digs (dm v0)).length c0, .int .i64 (de v0)] 24)) = w0 at *
  clear hZ
  (with_reducible refine (F3.head_calls _ (TT.out.bel (g0.trans (Bel.refl _)))).mono ?_); rintro e w1 ⟨rfl, b1⟩
  have KB0_1 := Ho.mk ((KB0.out.bel ((Bel.refl _).trans b1)))
  have yB0_1_0 := KB0_1.out.cell (i := 0) rfl
  have yB0_1_1 := KB0_1.out.cell (i := 1) rfl
  have yB0_1_2 := KB0_1.out.cell (i := 2) rfl
  go_wp2_with fail
  (with_reducible refine ((HG.out _ (g0.trans ((Bel.refl _).trans b1)))).mono ?_); rintro e w2 ⟨rfl, b2⟩
  clear yB0_1_0 yB0_1_1 yB0_1_2
  have KB0_2 := Ho.mk ((KB0_1.out.bel (((Bel.refl _).alloc (.cells #[.bool (dneg v0), .slice A0 (digs (dm v0)).length c0, .int .i64 (de v0)] 24)).trans b2)))
  have yB0_2_0 := KB0_2.out.cell (i := 0) rfl
  have yB0_2_1 := KB0_2.out.cell (i := 1) rfl
  have yB0_2_2 := KB0_2.out.cell (i := 2) rfl
  go_wp2_with fail
  (with_reducible refine (F1.dCut (TT.out.bel (g0.trans ((((Bel.refl _).trans b1).alloc (.cells #[.bool (dneg v0), .slice A0 (digs (dm v0)).length c0, .int .i64 (de v0)] 24)).trans b2))) ((p0.bel g0).bel ((((Bel.refl _).trans b1).alloc (.cells #[.bool (dneg v0), .slice A0 (digs (dm v0)).length c0, .int .i64 (de v0)] 24)).trans b2)) kn false (by omega) (by omega) (nn := (kn : Int)) rfl).mono ?_); rintro e w3 ⟨A3, c3, rfl, n3, b3⟩
  clear yB0_2_0 yB0_2_1 yB0_2_2
  have KB7 := Ho.mk (Blk.new w3 [.bool (dneg (cutV v0 kn false)), .slice A3 (digs (dm (cutV v0 kn false))).length c3, .int .i64 (de (cutV v0 kn false))] 24)
  have KB0_3x := Ho.mk ((KB0_2.out.bel (((Bel.refl _).trans b3).alloc (.cells #[.bool (dneg (cutV v0 kn false)), .slice A3 (digs (dm (cutV v0 kn false))).length c3, .int .i64 (de (cutV v0 kn false))] 24))))
  have yB0_3x_0 := KB0_3x.out.cell (i := 0) rfl
  have yB0_3x_1 := KB0_3x.out.cell (i := 1) rfl
  have yB0_3x_2 := KB0_3x.out.cell (i := 2) rfl
  go_wp2_with fail
  (with_reducible refine (F1.dCut (TT.out.bel (g0.trans ((((((Bel.refl _).trans b1).alloc (.cells #[.bool (dneg v0), .slice A0 (digs (dm v0)).length c0, .int .i64 (de v0)] 24)).trans b2).trans b3).alloc (.cells #[.bool (dneg (cutV v0 kn false)), .slice A3 (digs (dm (cutV v0 kn false))).length c3, .int .i64 (de (cutV v0 kn false))] 24)))) ((p0.bel g0).bel ((((((Bel.refl _).trans b1).alloc (.cells #[.bool (dneg v0), .slice A0 (digs (dm v0)).length c0, .int .i64 (de v0)] 24)).trans b2).trans b3).alloc (.cells #[.bool (dneg (cutV v0 kn false)), .slice A3 (digs (dm (cutV v0 kn false))).length c3, .int .i64 (de (cutV v0 kn false))] 24))) kn true (by omega) (by omega) (nn := (kn : Int)) rfl).mono ?_); rintro e w4 ⟨A4, c4, rfl, n4, b4⟩
  clear yB0_3x_0 yB0_3x_1 yB0_3x_2
  have KB8 := Ho.mk (Blk.new w4 [.bool (dneg (cutV v0 kn true)), .slice A4 (digs (dm (cutV v0 kn true))).length c4, .int .i64 (de (cutV v0 kn true))] 24)
  have KB7_4x := Ho.mk ((KB7.out.bel (((Bel.refl _).trans b4).alloc (.cells #[.bool (dneg (cutV v0 kn true)), .slice A4 (digs (dm (cutV v0 kn true))).length c4, .int .i64 (de (cutV v0 kn true))] 24))))
  have yB7_4x_0 := KB7_4x.out.cell (i := 0) rfl
  have yB7_4x_1 := KB7_4x.out.cell (i := 1) rfl
  have yB7_4x_2 := KB7_4x.out.cell (i := 2) rfl
  go_wp2_with fail
  (with_reducible refine (F6.rRight' (n3.bel ((((Bel.refl _).alloc (.cells #[.bool (dneg (cutV v0 kn false)), .slice A3 (digs (dm (cutV v0 kn false))).length c3, .int .i64 (de (cutV v0 kn false))] 24)).trans b4).alloc (.cells #[.bool (dneg (cutV v0 kn true)), .slice A4 (digs (dm (cutV v0 kn true))).length c4, .int .i64 (de (cutV v0 kn true))] 24))) (by omega) (by omega) HL0.out).mono ?_); rintro e w5 ⟨rfl, b5⟩
  clear yB7_4x_0 yB7_4x_1 yB7_4x_2
  have KB8_5 := Ho.mk ((KB8.out.bel ((Bel.refl _).trans b5)))
  have yB8_5_0 := KB8_5.out.cell (i := 0) rfl
  have yB8_5_1 := KB8_5.out.cell (i := 1) rfl
  have yB8_5_2 := KB8_5.out.cell (i := 2) rfl
  go_wp2_with fail
  (with_reducible refine (F6.rRight' (n4.bel (((Bel.refl _).alloc (.cells #[.bool (dneg (cutV v0 kn true)), .slice A4 (digs (dm (cutV v0 kn true))).length c4, .int .i64 (de (cutV v0 kn true))] 24)).trans b5)) (by omega) (by omega) HL1.out).mono ?_); rintro e w6 ⟨rfl, b6⟩
  clear yB8_5_0 yB8_5_1 yB8_5_2
  have KB7_6 := Ho.mk ((KB7_4x.out.bel (((Bel.refl _).trans b5).trans b6)))
  have yB7_6_0 := KB7_6.out.cell (i := 0) rfl
  have yB7_6_1 := KB7_6.out.cell (i := 1) rfl
  have yB7_6_2 := KB7_6.out.cell (i := 2) rfl
  go_wp2_with fail
  (with_reducible refine (wLenN ((n3.nv (by omega)).bel ((((((Bel.refl _).alloc (.cells #[.bool (dneg (cutV v0 kn false)), .slice A3 (digs (dm (cutV v0 kn false))).length c3, .int .i64 (de (cutV v0 kn false))] 24)).trans b4).alloc (.cells #[.bool (dneg (cutV v0 kn true)), .slice A4 (digs (dm (cutV v0 kn true))).length c4, .int .i64 (de (cutV v0 kn true))] 24)).trans b5).trans b6)) (r := bl0) HB0.out).mono ?_); rintro e w7 ⟨rfl, b7⟩
  clear yB7_6_0 yB7_6_1 yB7_6_2
  have KB8_7 := Ho.mk ((KB8_5.out.bel (((Bel.refl _).trans b6).trans b7)))
  have yB8_7_0 := KB8_7.out.cell (i := 0) rfl
  have yB8_7_1 := KB8_7.out.cell (i := 1) rfl
  have yB8_7_2 := KB8_7.out.cell (i := 2) rfl
  go_wp2_with fail
  (with_reducible refine (wLenN ((n4.nv (by omega)).bel (((((Bel.refl _).alloc (.cells #[.bool (dneg (cutV v0 kn true)), .slice A4 (digs (dm (cutV v0 kn true))).length c4, .int .i64 (de (cutV v0 kn true))] 24)).trans b5).trans b6).trans b7)) (r := bl1) HB1.out).mono ?_); rintro e w8 ⟨rfl, b8⟩
  clear yB8_7_0 yB8_7_1 yB8_7_2
  have KB7_8 := Ho.mk ((KB7_6.out.bel (((Bel.refl _).trans b7).trans b8)))
  have yB7_8_0 := KB7_8.out.cell (i := 0) rfl
  have yB7_8_1 := KB7_8.out.cell (i := 1) rfl
  have yB7_8_2 := KB7_8.out.cell (i := 2) rfl
  have KB0_8 := Ho.mk ((KB0_3x.out.bel (((((((Bel.refl _).trans b4).alloc (.cells #[.bool (dneg (cutV v0 kn true)), .slice A4 (digs (dm (cutV v0 kn true))).length c4, .int .i64 (de (cutV v0 kn true))] 24)).trans b5).trans b6).trans b7).trans b8)))
  have yB0_8_0 := KB0_8.out.cell (i := 0) rfl
  have yB0_8_1 := KB0_8.out.cell (i := 1) rfl
  have yB0_8_2 := KB0_8.out.cell (i := 2) rfl
  go_wp2_with fail
  (with_reducible refine (F1.dCmp (TT.out.bel (g0.trans ((((((((((((Bel.refl _).trans b1).alloc (.cells #[.bool (dneg v0), .slice A0 (digs (dm v0)).length c0, .int .i64 (de v0)] 24)).trans b2).trans b3).alloc (.cells #[.bool (dneg (cutV v0 kn false)), .slice A3 (digs (dm (cutV v0 kn false))).length c3, .int .i64 (de (cutV v0 kn false))] 24)).trans b4).alloc (.cells #[.bool (dneg (cutV v0 kn true)), .slice A4 (digs (dm (cutV v0 kn true))).length c4, .int .i64 (de (cutV v0 kn true))] 24)).trans b5).trans b6).trans b7).trans b8))) (n3.bel ((((((((Bel.refl _).alloc (.cells #[.bool (dneg (cutV v0 kn false)), .slice A3 (digs (dm (cutV v0 kn false))).length c3, .int .i64 (de (cutV v0 kn false))] 24)).trans b4).alloc (.cells #[.bool (dneg (cutV v0 kn true)), .slice A4 (digs (dm (cutV v0 kn true))).length c4, .int .i64 (de (cutV v0 kn true))] 24)).trans b5).trans b6).trans b7).trans b8)) ((p0.bel g0).bel ((((((((((((Bel.refl _).trans b1).alloc (.cells #[.bool (dneg v0), .slice A0 (digs (dm v0)).length c0, .int .i64 (de v0)] 24)).trans b2).trans b3).alloc (.cells #[.bool (dneg (cutV v0 kn false)), .slice A3 (digs (dm (cutV v0 kn false))).length c3, .int .i64 (de (cutV v0 kn false))] 24)).trans b4).alloc (.cells #[.bool (dneg (cutV v0 kn true)), .slice A4 (digs (dm (cutV v0 kn true))).length c4, .int .i64 (de (cutV v0 kn true))] 24)).trans b5).trans b6).trans b7).trans b8)) (by omega) (by omega) (r := r0) HR0.out).mono ?_); rintro e w9 ⟨rfl, b9⟩
  clear yB7_8_0 yB7_8_1 yB7_8_2 yB0_8_0 yB0_8_1 yB0_8_2
  have KB8_9 := Ho.mk ((KB8_7.out.bel (((Bel.refl _).trans b8).trans b9)))
  have yB8_9_0 := KB8_9.out.cell (i := 0) rfl
  have yB8_9_1 := KB8_9.out.cell (i := 1) rfl
  have yB8_9_2 := KB8_9.out.cell (i := 2) rfl
  have KB0_9 := Ho.mk ((KB0_8.out.bel ((Bel.refl _).trans b9)))
  have yB0_9_0 := KB0_9.out.cell (i := 0) rfl
  have yB0_9_1 := KB0_9.out.cell (i := 1) rfl
  have yB0_9_2 := KB0_9.out.cell (i := 2) rfl
  go_wp2_with fail
  (with_reducible refine (F1.dCmp (TT.out.bel (g0.trans (((((((((((((Bel.refl _).trans b1).alloc (.cells #[.bool (dneg v0), .slice A0 (digs (dm v0)).length c0, .int .i64 (de v0)] 24)).trans b2).trans b3).alloc (.cells #[.bool (dneg (cutV v0 kn false)), .slice A3 (digs (dm (cutV v0 kn false))).length c3, .int .i64 (de (cutV v0 kn false))] 24)).trans b4).alloc (.cells #[.bool (dneg (cutV v0 kn true)), .slice A4 (digs (dm (cutV v0 kn true))).length c4, .int .i64 (de (cutV v0 kn true))] 24)).trans b5).trans b6).trans b7).trans b8).trans b9))) (n4.bel (((((((Bel.refl _).alloc (.cells #[.bool (dneg (cutV v0 kn true)), .slice A4 (digs (dm (cutV v0 kn true))).length c4, .int .i64 (de (cutV v0 kn true))] 24)).trans b5).trans b6).trans b7).trans b8).trans b9)) ((p0.bel g0).bel (((((((((((((Bel.refl _).trans b1).alloc (.cells #[.bool (dneg v0), .slice A0 (digs (dm v0)).length c0, .int .i64 (de v0)] 24)).trans b2).trans b3).alloc (.cells #[.bool (dneg (cutV v0 kn false)), .slice A3 (digs (dm (cutV v0 kn false))).length c3, .int .i64 (de (cutV v0 kn false))] 24)).trans b4).alloc (.cells #[.bool (dneg (cutV v0 kn true)), .slice A4 (digs (dm (cutV v0 kn true))).length c4, .int .i64 (de (cutV v0 kn true))] 24)).trans b5).trans b6).trans b7).trans b8).trans b9)) (by omega) (by omega) (r := r1) HR1.out).mono ?_); rintro e w10 ⟨rfl, b10⟩
  clear yB8_9_0 yB8_9_1 yB8_9_2 yB0_9_0 yB0_9_1 yB0_9_2
  have KB0_10 := Ho.mk ((KB0_9.out.bel ((Bel.refl _).trans b10)))
  have yB0_10_0 := KB0_10.out.cell (i := 0) rfl
  have yB0_10_1 := KB0_10.out.cell (i := 1) rfl
  have yB0_10_2 := KB0_10.out.cell (i := 2) rfl
  go_wp2_with fail
  (with_reducible refine (wLenN (((p0.bel g0).nv (by omega)).bel ((((((((((((((Bel.refl _).trans b1).alloc (.cells #[.bool (dneg v0), .slice A0 (digs (dm v0)).length c0, .int .i64 (de v0)] 24)).trans b2).trans b3).alloc (.cells #[.bool (dneg (cutV v0 kn false)), .slice A3 (digs (dm (cutV v0 kn false))).length c3, .int .i64 (de (cutV v0 kn false))] 24)).trans b4).alloc (.cells #[.bool (dneg (cutV v0 kn true)), .slice A4 (digs (dm (cutV v0 kn true))).length c4, .int .i64 (de (cutV v0 kn true))] 24)).trans b5).trans b6).trans b7).trans b8).trans b9).trans b10)) (r := bl) HBL.out).mono ?_); rintro e w11 ⟨rfl, b11⟩
  clear yB0_10_0 yB0_10_1 yB0_10_2
  have KB7_11 := Ho.mk ((KB7_8.out.bel ((((Bel.refl _).trans b9).trans b10).trans b11)))
  have yB7_11_0 := KB7_11.out.cell (i := 0) rfl
  have yB7_11_1 := KB7_11.out.cell (i := 1) rfl
  have yB7_11_2 := KB7_11.out.cell (i := 2) rfl
  have KB0_11 := Ho.mk ((KB0_10.out.bel ((Bel.refl _).trans b11)))
  have yB0_11_0 := KB0_11.out.cell (i := 0) rfl
  have yB0_11_1 := KB0_11.out.cell (i := 1) rfl
  have yB0_11_2 := KB0_11.out.cell (i := 2) rfl
  go_wp2_with fail
  (with_reducible refine (F1.same (n3.bel (((((((((((Bel.refl _).alloc (.cells #[.bool (dneg (cutV v0 kn false)), .slice A3 (digs (dm (cutV v0 kn false))).length c3, .int .i64 (de (cutV v0 kn false))] 24)).trans b4).alloc (.cells #[.bool (dneg (cutV v0 kn true)), .slice A4 (digs (dm (cutV v0 kn true))).length c4, .int .i64 (de (cutV v0 kn true))] 24)).trans b5).trans b6).trans b7).trans b8).trans b9).trans b10).trans b11)) ((p0.bel g0).bel (((((((((((((((Bel.refl _).trans b1).alloc (.cells #[.bool (dneg v0), .slice A0 (digs (dm v0)).length c0, .int .i64 (de v0)] 24)).trans b2).trans b3).alloc (.cells #[.bool (dneg (cutV v0 kn false)), .slice A3 (digs (dm (cutV v0 kn false))).length c3, .int .i64 (de (cutV v0 kn false))] 24)).trans b4).alloc (.cells #[.bool (dneg (cutV v0 kn true)), .slice A4 (digs (dm (cutV v0 kn true))).length c4, .int .i64 (de (cutV v0 kn true))] 24)).trans b5).trans b6).trans b7).trans b8).trans b9).trans b10).trans b11)) HS0.out).mono ?_); rintro e w12 ⟨rfl, b12⟩
  clear yB7_11_0 yB7_11_1 yB7_11_2 yB0_11_0 yB0_11_1 yB0_11_2
  have KB8_12 := Ho.mk ((KB8_9.out.bel ((((Bel.refl _).trans b10).trans b11).trans b12)))
  have yB8_12_0 := KB8_12.out.cell (i := 0) rfl
  have yB8_12_1 := KB8_12.out.cell (i := 1) rfl
  have yB8_12_2 := KB8_12.out.cell (i := 2) rfl
  have KB0_12 := Ho.mk ((KB0_11.out.bel ((Bel.refl _).trans b12)))
  have yB0_12_0 := KB0_12.out.cell (i := 0) rfl
  have yB0_12_1 := KB0_12.out.cell (i := 1) rfl
  have yB0_12_2 := KB0_12.out.cell (i := 2) rfl
  go_wp2_with fail
  (with_reducible refine (F1.same (n4.bel ((((((((((Bel.refl _).alloc (.cells #[.bool (dneg (cutV v0 kn true)), .slice A4 (digs (dm (cutV v0 kn true))).length c4, .int .i64 (de (cutV v0 kn true))] 24)).trans b5).trans b6).trans b7).trans b8).trans b9).trans b10).trans b11).trans b12)) ((p0.bel g0).bel ((((((((((((((((Bel.refl _).trans b1).alloc (.cells #[.bool (dneg v0), .slice A0 (digs (dm v0)).length c0, .int .i64 (de v0)] 24)).trans b2).trans b3).alloc (.cells #[.bool (dneg (cutV v0 kn false)), .slice A3 (digs (dm (cutV v0 kn false))).length c3, .int .i64 (de (cutV v0 kn false))] 24)).trans b4).alloc (.cells #[.bool (dneg (cutV v0 kn true)), .slice A4 (digs (dm (cutV v0 kn true))).length c4, .int .i64 (de (cutV v0 kn true))] 24)).trans b5).trans b6).trans b7).trans b8).trans b9).trans b10).trans b11).trans b12)) HS1.out).mono ?_); rintro e w13 ⟨rfl, b13⟩
  clear yB8_12_0 yB8_12_1 yB8_12_2 yB0_12_0 yB0_12_1 yB0_12_2
  have HE := Ho.mk (g0.trans (((((((((((((((((Bel.refl _).trans b1).alloc (.cells #[.bool (dneg v0), .slice A0 (digs (dm v0)).length c0, .int .i64 (de v0)] 24)).trans b2).trans b3).alloc (.cells #[.bool (dneg (cutV v0 kn false)), .slice A3 (digs (dm (cutV v0 kn false))).length c3, .int .i64 (de (cutV v0 kn false))] 24)).trans b4).alloc (.cells #[.bool (dneg (cutV v0 kn true)), .slice A4 (digs (dm (cutV v0 kn true))).length c4, .int .i64 (de (cutV v0 kn true))] 24)).trans b5).trans b6).trans b7).trans b8).trans b9).trans b10).trans b11).trans b12).trans b13))
  go_wp2
  go_ret
  exact ⟨rfl, HE.out⟩
set_option maxRecDepth 100000 in
set_option maxHeartbeats 8000000 in
theorem many_calls (A0 : Option Addr) (c0 : Nat) (v0 : Int) (a1 : Int) (kn : Nat) (w : World) (T : Tab w) (p0 : Dv w A0 c0 v0 200 392) (len0 : (digs (dm v0)).length ≤ 8) (hb : 0 ≤ a1 ∧ a1 ≤ 255) (hkn : a1 % 40 + 1 = (kn : Int)) (hk1 : 1 ≤ kn) (hk2 : kn ≤ 40) (hf : kn < blen (dm v0)) (hg : (([⟨dneg v0, A0, c0, digs (dm v0), de v0⟩] : List F2.DRow).all F2.goodB) = true) :
    Calls Tryd.prog 6 #[.agg #[.bool (dneg v0), .slice A0 (digs (dm v0)).length c0, .int .i64 (de v0)], .int .u8 a1] w (Tells w (.bool true)) := by
  have TT := Ho.mk T
  have HG := Ho.mk (cut_good (dneg v0) c0 (de v0) p0.rd)
  rw [hg] at HG
  obtain ⟨bl, hbl⟩ : ∃ bl : Int, (blen (dm v0) : Int) = bl := ⟨_, rfl⟩
  obtain ⟨bl0, hbl0⟩ : ∃ bl : Int, (blen (dm (cutV v0 kn false)) : Int) = bl := ⟨_, rfl⟩
  obtain ⟨bl1, hbl1⟩ : ∃ bl : Int, (blen (dm (cutV v0 kn true)) : Int) = bl := ⟨_, rfl⟩
  have hb0 := cut_len v0 kn false hk1
  have hb1 := cut_len v0 kn true hk1
  have hbb : bl ≤ 192 := by
    rw [← hbl]
    have := D2.blen_len (dm v0)
    omega
  have hbn : 0 ≤ bl := by omega
  have d0 : decide ((kn : Int) < bl0) = false := decide_eq_false (by omega)
  have d1 : decide ((kn : Int) < bl1) = false := decide_eq_false (by omega)
  have HB0 := Ho.mk hbl0
  have HB1 := Ho.mk hbl1
  have HL0 := Ho.mk (F6.cut_limbs v0 kn false hk1 hk2)
  have HL1 := Ho.mk (F6.cut_limbs v0 kn true hk1 hk2)
  have HBL := Ho.mk hbl
  obtain ⟨r0, hr0⟩ : ∃ r, cmpI (cutV v0 kn false) v0 = r := ⟨_, rfl⟩
  obtain ⟨r1, hr1⟩ : ∃ r, cmpI (cutV v0 kn true) v0 = r := ⟨_, rfl⟩
  obtain ⟨hc1, hc2, hc3⟩ := F6.cut_gap hf
  have hr0' : r0 = -1 := hr0.symm.trans hc1
  have hr1' : r1 = 1 := hr1.symm.trans hc2
  have d2 : decide (0 < r0) = false := decide_eq_false (by omega)
  have d3 : decide (r1 < 0) = false := decide_eq_false (by omega)
  have d5 : decide (r0 < 0) = true := decide_eq_true (by omega)
  have d6 : decide (0 < r1) = true := decide_eq_true (by omega)
  have d4 : decide (bl ≤ (kn : Int)) = false := decide_eq_false (by omega)
  have he0 := p0.wd.e_ge
  have he1 := p0.wd.e_le
  have HGAP : Ho (((cutV v0 kn true) + -(cutV v0 kn false)) = sc false 1 (de v0 + bl - kn)) := ⟨by rw [hc3]; congr 1; omega⟩
  have HE0 : Ho (-(K : Int) ≤ de v0 + bl - kn) := ⟨by unfold K; omega⟩
  have HR0 := Ho.mk hr0
  have HR1 := Ho.mk hr1
  clear hbl hbl0 hbl1 hb0 hb1 hr0 hr1 hc1 hc2 hc3 hf hr0' hr1'
  have hb00 := hb.1
  have hb01 := hb.2
  clear T hg hb
  go_enter Tryd.func6, Tryd.ntmps6
  go_wp2_with fail
  have KB0 := Ho.mk (Blk.new w [.bool (dneg v0), .slice A0 (digs (dm v0)).length c0, .int .i64 (de v0)] 24)
  have g0 := (Bel.refl w).alloc (.cells #[.bool (dneg v0), .slice A0 (digs (dm v0)).length c0, .int .i64 (de v0)] 24)
  have hZ : (w.alloc (.cells #[.bool (dneg v0), .slice A0 (digs (dm v0)).length c0, .int .i64 (de v0)] 24)) = (w.alloc (.cells #[.bool (dneg v0), .slice A0 (digs (dm v0)).length c0, .int .i64 (de v0)] 24)) := rfl
  generalize (w.alloc (.cells #[.bool (dneg v0), .slice A0 (digs (dm v0)).length c0, .int .i64 (de v0)] 24)) = w0 at *
  clear hZ
  (with_reducible refine (F3.head_calls _ (TT.out.bel (g0.trans (Bel.refl _)))).mono ?_); rintro e w1 ⟨rfl, b1⟩
  have KB0_1 := Ho.mk ((KB0.out.bel ((Bel.refl _).trans b1)))
  have yB0_1_0 := KB0_1.out.cell (i := 0) rfl
  have yB0_1_1 := KB0_1.out.cell (i := 1) rfl
  have yB0_1_2 := KB0_1.out.cell (i := 2) rfl
  go_wp2_with fail
  (with_reducible refine ((HG.out _ (g0.trans ((Bel.refl _).trans b1)))).mono ?_); rintro e w2 ⟨rfl, b2⟩
  clear yB0_1_0 yB0_1_1 yB0_1_2
  have KB0_2 := Ho.mk ((KB0_1.out.bel (((Bel.refl _).alloc (.cells #[.bool (dneg v0), .slice A0 (digs (dm v0)).length c0, .int .i64 (de v0)] 24)).trans b2)))
  have yB0_2_0 := KB0_2.out.cell (i := 0) rfl
  have yB0_2_1 := KB0_2.out.cell (i := 1) rfl
  have yB0_2_2 := KB0_2.out.cell (i := 2) rfl
  go_wp2_with fail
  (with_reducible refine (F1.dCut (TT.out.bel (g0.trans ((((Bel.refl _).trans b1).alloc (.cells #[.bool (dneg v0), .slice A0 (digs (dm v0)).length c0, .int .i64 (de v0)] 24)).trans b2))) ((p0.bel g0).bel ((((Bel.refl _).trans b1).alloc (.cells #[.bool (dneg v0), .slice A0 (digs (dm v0)).length c0, .int .i64 (de v0)] 24)).trans b2)) kn false (by omega) (by omega) (nn := (kn : Int)) rfl).mono ?_); rintro e w3 ⟨A3, c3, rfl, n3, b3⟩
  clear yB0_2_0 yB0_2_1 yB0_2_2
  have KB7 := Ho.mk (Blk.new w3 [.bool (dneg (cutV v0 kn false)), .slice A3 (digs (dm (cutV v0 kn false))).length c3, .int .i64 (de (cutV v0 kn false))] 24)
  have KB0_3x := Ho.mk ((KB0_2.out.bel (((Bel.refl _).trans b3).alloc (.cells #[.bool (dneg (cutV v0 kn false)), .slice A3 (digs (dm (cutV v0 kn false))).length c3, .int .i64 (de (cutV v0 kn false))] 24))))
  have yB0_3x_0 := KB0_3x.out.cell (i := 0) rfl
  have yB0_3x_1 := KB0_3x.out.cell (i := 1) rfl
  have yB0_3x_2 := KB0_3x.out.cell (i := 2) rfl
  go_wp2_with fail
  (with_reducible refine (F1.dCut (TT.out.bel (g0.trans ((((((Bel.refl _).trans b1).alloc (.cells #[.bool (dneg v0), .slice A0 (digs (dm v0)).length c0, .int .i64 (de v0)] 24)).trans b2).trans b3).alloc (.cells #[.bool (dneg (cutV v0 kn false)), .slice A3 (digs (dm (cutV v0 kn false))).length c3, .int .i64 (de (cutV v0 kn false))] 24)))) ((p0.bel g0).bel ((((((Bel.refl _).trans b1).alloc (.cells #[.bool (dneg v0), .slice A0 (digs (dm v0)).length c0, .int .i64 (de v0)] 24)).trans b2).trans b3).alloc (.cells #[.bool (dneg (cutV v0 kn false)), .slice A3 (digs (dm (cutV v0 kn false))).length c3, .int .i64 (de (cutV v0 kn false))] 24))) kn true (by omega) (by omega) (nn := (kn : Int)) rfl).mono ?_); rintro e w4 ⟨A4, c4, rfl, n4, b4⟩
  clear yB0_3x_0 yB0_3x_1 yB0_3x_2
  have KB8 := Ho.mk (Blk.new w4 [.bool (dneg (cutV v0 kn true)), .slice A4 (digs (dm (cutV v0 kn true))).length c4, .int .i64 (de (cutV v0 kn true))] 24)
  have KB7_4x := Ho.mk ((KB7.out.bel (((Bel.refl _).trans b4).alloc (.cells #[.bool (dneg (cutV v0 kn true)), .slice A4 (digs (dm (cutV v0 kn true))).length c4, .int .i64 (de (cutV v0 kn true))] 24))))
  have yB7_4x_0 := KB7_4x.out.cell (i := 0) rfl
  have yB7_4x_1 := KB7_4x.out.cell (i := 1) rfl
  have yB7_4x_2 := KB7_4x.out.cell (i := 2) rfl
  go_wp2_with fail
  (with_reducible refine (F6.rRight' (n3.bel ((((Bel.refl _).alloc (.cells #[.bool (dneg (cutV v0 kn false)), .slice A3 (digs (dm (cutV v0 kn false))).length c3, .int .i64 (de (cutV v0 kn false))] 24)).trans b4).alloc (.cells #[.bool (dneg (cutV v0 kn true)), .slice A4 (digs (dm (cutV v0 kn true))).length c4, .int .i64 (de (cutV v0 kn true))] 24))) (by omega) (by omega) HL0.out).mono ?_); rintro e w5 ⟨rfl, b5⟩
  clear yB7_4x_0 yB7_4x_1 yB7_4x_2
  have KB8_5 := Ho.mk ((KB8.out.bel ((Bel.refl _).trans b5)))
  have yB8_5_0 := KB8_5.out.cell (i := 0) rfl
  have yB8_5_1 := KB8_5.out.cell (i := 1) rfl
  have yB8_5_2 := KB8_5.out.cell (i := 2) rfl
  go_wp2_with fail
  (with_reducible refine (F6.rRight' (n4.bel (((Bel.refl _).alloc (.cells #[.bool (dneg (cutV v0 kn true)), .slice A4 (digs (dm (cutV v0 kn true))).length c4, .int .i64 (de (cutV v0 kn true))] 24)).trans b5)) (by omega) (by omega) HL1.out).mono ?_); rintro e w6 ⟨rfl, b6⟩
  clear yB8_5_0 yB8_5_1 yB8_5_2
  have KB7_6 := Ho.mk ((KB7_4x.out.bel (((Bel.refl _).trans b5).trans b6)))
  have yB7_6_0 := KB7_6.out.cell (i := 0) rfl
  have yB7_6_1 := KB7_6.out.cell (i := 1) rfl
  have yB7_6_2 := KB7_6.out.cell (i := 2) rfl
  go_wp2_with fail
  (with_reducible refine (wLenN ((n3.nv (by omega)).bel ((((((Bel.refl _).alloc (.cells #[.bool (dneg (cutV v0 kn false)), .slice A3 (digs (dm (cutV v0 kn false))).length c3, .int .i64 (de (cutV v0 kn false))] 24)).trans b4).alloc (.cells #[.bool (dneg (cutV v0 kn true)), .slice A4 (digs (dm (cutV v0 kn true))).length c4, .int .i64 (de (cutV v0 kn true))] 24)).trans b5).trans b6)) (r := bl0) HB0.out).mono ?_); rintro e w7 ⟨rfl, b7⟩
  clear yB7_6_0 yB7_6_1 yB7_6_2
  have KB8_7 := Ho.mk ((KB8_5.out.bel (((Bel.refl _).trans b6).trans b7)))
  have yB8_7_0 := KB8_7.out.cell (i := 0) rfl
  have yB8_7_1 := KB8_7.out.cell (i := 1) rfl
  have yB8_7_2 := KB8_7.out.cell (i := 2) rfl
  go_wp2_with fail
  (with_reducible refine (wLenN ((n4.nv (by omega)).bel (((((Bel.refl _).alloc (.cells #[.bool (dneg (cutV v0 kn true)), .slice A4 (digs (dm (cutV v0 kn true))).length c4, .int .i64 (de (cutV v0 kn true))] 24)).trans b5).trans b6).trans b7)) (r := bl1) HB1.out).mono ?_); rintro e w8 ⟨rfl, b8⟩
  clear yB8_7_0 yB8_7_1 yB8_7_2
  have KB7_8 := Ho.mk ((KB7_6.out.bel (((Bel.refl _).trans b7).trans b8)))
  have yB7_8_0 := KB7_8.out.cell (i := 0) rfl
  have yB7_8_1 := KB7_8.out.cell (i := 1) rfl
  have yB7_8_2 := KB7_8.out.cell (i := 2) rfl
  have KB0_8 := Ho.mk ((KB0_3x.out.bel (((((((Bel.refl _).trans b4).alloc (.cells #[.bool (dneg (cutV v0 kn true)), .slice A4 (digs (dm (cutV v0 kn true))).length c4, .int .i64 (de (cutV v0 kn true))] 24)).trans b5).trans b6).trans b7).trans b8)))
  have yB0_8_0 := KB0_8.out.cell (i := 0) rfl
  have yB0_8_1 := KB0_8.out.cell (i := 1) rfl
  have yB0_8_2 := KB0_8.out.cell (i := 2) rfl
  go_wp2_with fail
  (with_reducible refine (F1.dCmp (TT.out.bel (g0.trans ((((((((((((Bel.refl _).trans b1).alloc (.cells #[.bool (dneg v0), .slice A0 (digs (dm v0)).length c0, .int .i64 (de v0)] 24)).trans b2).trans b3).alloc (.cells #[.bool (dneg (cutV v0 kn false)), .slice A3 (digs (dm (cutV v0 kn false))).length c3, .int .i64 (de (cutV v0 kn false))] 24)).trans b4).alloc (.cells #[.bool (dneg (cutV v0 kn true)), .slice A4 (digs (dm (cutV v0 kn true))).length c4, .int .i64 (de (cutV v0 kn true))] 24)).trans b5).trans b6).trans b7).trans b8))) (n3.bel ((((((((Bel.refl _).alloc (.cells #[.bool (dneg (cutV v0 kn false)), .slice A3 (digs (dm (cutV v0 kn false))).length c3, .int .i64 (de (cutV v0 kn false))] 24)).trans b4).alloc (.cells #[.bool (dneg (cutV v0 kn true)), .slice A4 (digs (dm (cutV v0 kn true))).length c4, .int .i64 (de (cutV v0 kn true))] 24)).trans b5).trans b6).trans b7).trans b8)) ((p0.bel g0).bel ((((((((((((Bel.refl _).trans b1).alloc (.cells #[.bool (dneg v0), .slice A0 (digs (dm v0)).length c0, .int .i64 (de v0)] 24)).trans b2).trans b3).alloc (.cells #[.bool (dneg (cutV v0 kn false)), .slice A3 (digs (dm (cutV v0 kn false))).length c3, .int .i64 (de (cutV v0 kn false))] 24)).trans b4).alloc (.cells #[.bool (dneg (cutV v0 kn true)), .slice A4 (digs (dm (cutV v0 kn true))).length c4, .int .i64 (de (cutV v0 kn true))] 24)).trans b5).trans b6).trans b7).trans b8)) (by omega) (by omega) (r := r0) HR0.out).mono ?_); rintro e w9 ⟨rfl, b9⟩
  clear yB7_8_0 yB7_8_1 yB7_8_2 yB0_8_0 yB0_8_1 yB0_8_2
  have KB8_9 := Ho.mk ((KB8_7.out.bel (((Bel.refl _).trans b8).trans b9)))
  have yB8_9_0 := KB8_9.out.cell (i := 0) rfl
  have yB8_9_1 := KB8_9.out.cell (i := 1) rfl
  have yB8_9_2 := KB8_9.out.cell (i := 2) rfl
  have KB0_9 := Ho.mk ((KB0_8.out.bel ((Bel.refl _).trans b9)))
  have yB0_9_0 := KB0_9.out.cell (i := 0) rfl
  have yB0_9_1 := KB0_9.out.cell (i := 1) rfl
  have yB0_9_2 := KB0_9.out.cell (i := 2) rfl
  go_wp2_with fail
  (with_reducible refine (F1.dCmp (TT.out.bel (g0.trans (((((((((((((Bel.refl _).trans b1).alloc (.cells #[.bool (dneg v0), .slice A0 (digs (dm v0)).length c0, .int .i64 (de v0)] 24)).trans b2).trans b3).alloc (.cells #[.bool (dneg (cutV v0 kn false)), .slice A3 (digs (dm (cutV v0 kn false))).length c3, .int .i64 (de (cutV v0 kn false))] 24)).trans b4).alloc (.cells #[.bool (dneg (cutV v0 kn true)), .slice A4 (digs (dm (cutV v0 kn true))).length c4, .int .i64 (de (cutV v0 kn true))] 24)).trans b5).trans b6).trans b7).trans b8).trans b9))) (n4.bel (((((((Bel.refl _).alloc (.cells #[.bool (dneg (cutV v0 kn true)), .slice A4 (digs (dm (cutV v0 kn true))).length c4, .int .i64 (de (cutV v0 kn true))] 24)).trans b5).trans b6).trans b7).trans b8).trans b9)) ((p0.bel g0).bel (((((((((((((Bel.refl _).trans b1).alloc (.cells #[.bool (dneg v0), .slice A0 (digs (dm v0)).length c0, .int .i64 (de v0)] 24)).trans b2).trans b3).alloc (.cells #[.bool (dneg (cutV v0 kn false)), .slice A3 (digs (dm (cutV v0 kn false))).length c3, .int .i64 (de (cutV v0 kn false))] 24)).trans b4).alloc (.cells #[.bool (dneg (cutV v0 kn true)), .slice A4 (digs (dm (cutV v0 kn true))).length c4, .int .i64 (de (cutV v0 kn true))] 24)).trans b5).trans b6).trans b7).trans b8).trans b9)) (by omega) (by omega) (r := r1) HR1.out).mono ?_); rintro e w10 ⟨rfl, b10⟩
  clear yB8_9_0 yB8_9_1 yB8_9_2 yB0_9_0 yB0_9_1 yB0_9_2
  have KB0_10 := Ho.mk ((KB0_9.out.bel ((Bel.refl _).trans b10)))
  have yB0_10_0 := KB0_10.out.cell (i := 0) rfl
  have yB0_10_1 := KB0_10.out.cell (i := 1) rfl
  have yB0_10_2 := KB0_10.out.cell (i := 2) rfl
  go_wp2_with fail
  (with_reducible refine (wLenN (((p0.bel g0).nv (by omega)).bel ((((((((((((((Bel.refl _).trans b1).alloc (.cells #[.bool (dneg v0), .slice A0 (digs (dm v0)).length c0, .int .i64 (de v0)] 24)).trans b2).trans b3).alloc (.cells #[.bool (dneg (cutV v0 kn false)), .slice A3 (digs (dm (cutV v0 kn false))).length c3, .int .i64 (de (cutV v0 kn false))] 24)).trans b4).alloc (.cells #[.bool (dneg (cutV v0 kn true)), .slice A4 (digs (dm (cutV v0 kn true))).length c4, .int .i64 (de (cutV v0 kn true))] 24)).trans b5).trans b6).trans b7).trans b8).trans b9).trans b10)) (r := bl) HBL.out).mono ?_); rintro e w11 ⟨rfl, b11⟩
  clear yB0_10_0 yB0_10_1 yB0_10_2
  have KL := Ho.mk ((KB7_8.out.bel ((((Bel.refl _).trans b9).trans b10).trans b11)))
  have KH := Ho.mk ((KB8_9.out.bel (((Bel.refl _).trans b10).trans b11)))
  have KD := Ho.mk ((KB0_10.out.bel ((Bel.refl _).trans b11)))
  have NL := Ho.mk ((n3.bel (((((((((((Bel.refl _).alloc (.cells #[.bool (dneg (cutV v0 kn false)), .slice A3 (digs (dm (cutV v0 kn false))).length c3, .int .i64 (de (cutV v0 kn false))] 24)).trans b4).alloc (.cells #[.bool (dneg (cutV v0 kn true)), .slice A4 (digs (dm (cutV v0 kn true))).length c4, .int .i64 (de (cutV v0 kn true))] 24)).trans b5).trans b6).trans b7).trans b8).trans b9).trans b10).trans b11)))
  have NH := Ho.mk ((n4.bel (((((((((Bel.refl _).alloc (.cells #[.bool (dneg (cutV v0 kn true)), .slice A4 (digs (dm (cutV v0 kn true))).length c4, .int .i64 (de (cutV v0 kn true))] 24)).trans b5).trans b6).trans b7).trans b8).trans b9).trans b10).trans b11)))
  have ND := Ho.mk (((p0.bel g0).bel (((((((((((((((Bel.refl _).trans b1).alloc (.cells #[.bool (dneg v0), .slice A0 (digs (dm v0)).length c0, .int .i64 (de v0)] 24)).trans b2).trans b3).alloc (.cells #[.bool (dneg (cutV v0 kn false)), .slice A3 (digs (dm (cutV v0 kn false))).length c3, .int .i64 (de (cutV v0 kn false))] 24)).trans b4).alloc (.cells #[.bool (dneg (cutV v0 kn true)), .slice A4 (digs (dm (cutV v0 kn true))).length c4, .int .i64 (de (cutV v0 kn true))] 24)).trans b5).trans b6).trans b7).trans b8).trans b9).trans b10).trans b11)))
  have GW := Ho.mk (g0.trans (((((((((((((((Bel.refl _).trans b1).alloc (.cells #[.bool (dneg v0), .slice A0 (digs (dm v0)).length c0, .int .i64 (de v0)] 24)).trans b2).trans b3).alloc (.cells #[.bool (dneg (cutV v0 kn false)), .slice A3 (digs (dm (cutV v0 kn false))).length c3, .int .i64 (de (cutV v0 kn false))] 24)).trans b4).alloc (.cells #[.bool (dneg (cutV v0 kn true)), .slice A4 (digs (dm (cutV v0 kn true))).length c4, .int .i64 (de (cutV v0 kn true))] 24)).trans b5).trans b6).trans b7).trans b8).trans b9).trans b10).trans b11))
  go_upto_region 11 with fail
  generalize w3.heap.size = pl at *
  generalize w4.heap.size = ph at *
  generalize w.heap.size = pd at *
  clear n3 n4 b1 b2 b3 b4 b5 b6 b7 b8 b9 b10 b11 g0 HG
  go_cut [9] (fun s9 wy => ∃ (p : Nat) (A : Option Addr) (c : Nat), s9 = .pointer (some ⟨p, 0, none⟩) ∧ Ho (Blk wy p 24 [.bool (dneg ((cutV v0 kn true) + -(cutV v0 kn false))), .slice A (digs (dm ((cutV v0 kn true) + -(cutV v0 kn false)))).length c, .int .i64 (de ((cutV v0 kn true) + -(cutV v0 kn false)))]) ∧ Ho (Dv wy A c ((cutV v0 kn true) + -(cutV v0 kn false)) 400 787) ∧ Ho (Bel w11 wy))
  case first =>
    have yl0 := KL.out.cell (i := 0) rfl
    have yl1 := KL.out.cell (i := 1) rfl
    have yl2 := KL.out.cell (i := 2) rfl
    have yh0 := KH.out.cell (i := 0) rfl
    have yh1 := KH.out.cell (i := 1) rfl
    have yh2 := KH.out.cell (i := 2) rfl
    have el0 := World.new_ne w11 _ yl0
    have el1 := World.new_ne w11 _ yl1
    have el2 := World.new_ne w11 _ yl2
    have eh0 := World.new_ne w11 _ yh0
    have eh1 := World.new_ne w11 _ yh1
    have eh2 := World.new_ne w11 _ yh2
    have ql1 : pl ≠ w11.heap.size := by have := KL.out.lt; omega
    have ql2 : ¬ (w11.heap.size = pl) := fun q => ql1 q.symm
    have qh1 : ph ≠ w11.heap.size := by have := KH.out.lt; omega
    have qh2 : ¬ (w11.heap.size = ph) := fun q => qh1 q.symm
    have FL := Ho.mk (fun (W : World) (g : Bel w11 W) => F1.dFlip (TT.out.bel (GW.out.trans g)) (NL.out.bel g) (by omega))
    have AD := Ho.mk (fun (A : Option Addr) (c : Nat) (W : World) (g : Bel w11 W) (q : Dv W A c (-(cutV v0 kn false)) 200 393) => F1.dAdd (TT.out.bel (GW.out.trans g)) (NH.out.bel g) q (by omega) (by omega))
    go_region_held3 (fun w' => w'.cell? ⟨pl, 0, none⟩ = some (.bool (dneg (cutV v0 kn false))) ∧ w'.cell? ⟨pl, 1, none⟩ = some (.slice A3 (digs (dm (cutV v0 kn false))).length c3) ∧ w'.cell? ⟨pl, 2, none⟩ = some (.int .i64 (de (cutV v0 kn false))) ∧ w'.cell? ⟨ph, 0, none⟩ = some (.bool (dneg (cutV v0 kn true))) ∧ w'.cell? ⟨ph, 1, none⟩ = some (.slice A4 (digs (dm (cutV v0 kn true))).length c4) ∧ w'.cell? ⟨ph, 2, none⟩ = some (.int .i64 (de (cutV v0 kn true))))
      (first
        | go_keep
        | (go_split_ands
           refine ⟨?_, ?_, ?_, ?_, ?_, ?_⟩ <;> (apply Bel.cell (by assumption); assumption))
        | (all_goals (go_split_ands; apply Bel.cell (by assumption); assumption))
        | (go_split_ands
           refine ⟨?_, ?_, ?_, ?_, ?_, ?_⟩ <;> go_keep)
        | (go_split_ands
           refine ⟨?_, ?_, ?_, ?_, ?_, ?_⟩ <;> (refine Bel.cell ((Bel.refl _).alloc _) ?_; assumption))
        | (all_goals (go_split_ands; refine Bel.cell ((Bel.refl _).alloc _) ?_; assumption)))
      (first
        | (go_at_call 28; (with_reducible refine (FL.out _ (by first | exact (Bel.refl _).drew | exact ((Bel.refl _).alloc _).drew | exact ((Bel.refl _).drew).alloc _)).mono ?_); rintro e wa ⟨A8, c8, rfl, n8, b8⟩
           have gba : Bel w11 wa := by first | exact (Bel.refl _).drew.trans b8 | exact ((Bel.refl _).alloc _).drew.trans b8 | exact (((Bel.refl _).drew).alloc _).trans b8
           have qa1 : pl ≠ wa.heap.size := by have := KL.out.lt; have := gba.size; omega
           have qa2 : ¬ (wa.heap.size = pl) := fun q => qa1 q.symm
           have qa3 : ph ≠ wa.heap.size := by have := KH.out.lt; have := gba.size; omega
           have qa4 : ¬ (wa.heap.size = ph) := fun q => qa3 q.symm
           try (have KQ : Blk wa w11.heap.size 24 [.bool false, .slice none 0 0, .int .i64 0] := by first | exact (Blk.new w11 _ _).bel ((Bel.refl _).drew.trans b8) | exact (Blk.new w11.drew _ _).bel b8))
        | (go_at_call 20; (with_reducible refine (AD.out _ _ _ (by first | exact (Bel.refl _).drew.trans b8 | exact ((Bel.refl _).alloc _).drew.trans b8 | exact (((Bel.refl _).drew).alloc _).trans b8 | exact ((Bel.refl _).drew.trans b8).alloc _) (by first | exact n8 | exact n8.bel ((Bel.refl _).alloc _))).mono ?_); rintro e wb ⟨A9, c9, rfl, n9, b9⟩
           have gb : Bel w11 wb := by first | exact (Bel.refl _).drew.trans (b8.trans b9) | exact ((Bel.refl _).alloc _).drew.trans (b8.trans b9) | exact (((Bel.refl _).drew).alloc _).trans (b8.trans b9) | exact ((Bel.refl _).drew.trans b8).alloc _ |>.trans b9
           have zl0 := gb.cell yl0
           have zl1 := gb.cell yl1
           have zl2 := gb.cell yl2
           have zh0 := gb.cell yh0
           have zh1 := gb.cell yh1
           have zh2 := gb.cell yh2
           try (have KQ2 : Blk wb w11.heap.size 24 [.bool false, .slice none 0 0, .int .i64 0] := KQ.bel b9
                have kq0 := KQ2.cell (i := 0) rfl
                have kq1 := KQ2.cell (i := 1) rfl
                have kq2 := KQ2.cell (i := 2) rfl
                have kf0 := KQ2.free 0
                have kf1 := KQ2.free 1
                have kf2 := KQ2.free 2)
           try (have KQ3 : Blk wb wa.heap.size 24 [.bool false, .slice none 0 0, .int .i64 0] := (Blk.new wa _ _).bel b9
                have kq0 := KQ3.cell (i := 0) rfl
                have kq1 := KQ3.cell (i := 1) rfl
                have kq2 := KQ3.cell (i := 2) rfl
                have kf0 := KQ3.free 0
                have kf1 := KQ3.free 1
                have kf2 := KQ3.free 2)))
    all_goals (go_wp2_with fail; go_meet)
    all_goals (first
      | exact ⟨_, A9, c9, rfl, ⟨((KQ2.set 0 _).set 1 _).set 2 _⟩, ⟨F3.dv_set3 (n9.mono (by omega) (by omega)) KQ2 _ _ _⟩, ⟨F3.bel_set3 gb (Nat.le_refl _) _ _ _⟩⟩
      | exact ⟨_, A9, c9, rfl, ⟨((KQ3.set 0 _).set 1 _).set 2 _⟩, ⟨F3.dv_set3 (n9.mono (by omega) (by omega)) KQ3 _ _ _⟩, ⟨F3.bel_set3 gb gba.size _ _ _⟩⟩
      | exact ⟨_, A9, c9, rfl, ⟨Blk.new _ _ _⟩, ⟨(n9.mono (by omega) (by omega)).bel ((Bel.refl _).alloc _)⟩, ⟨gb.alloc _⟩⟩)
  obtain ⟨pg, A9, c9, rfl, KG, NG, HY⟩ := hcut
  have KL2 := Ho.mk (KL.out.bel HY.out)
  have KH2 := Ho.mk (KH.out.bel HY.out)
  have KD2 := Ho.mk (KD.out.bel HY.out)
  have NL2 := Ho.mk (NL.out.bel HY.out)
  have NH2 := Ho.mk (NH.out.bel HY.out)
  have ND2 := Ho.mk (ND.out.bel HY.out)
  have GW2 := Ho.mk (GW.out.trans HY.out)
  clear KL KH KD NL NH ND GW HY
  go_upto_region 12 with fail
  have q1 : IntKind.i64.wrap (de v0 + bl) = de v0 + bl := IntWalk.i64_in _ (by omega)
  have q2 : IntKind.i64.wrap (de v0 + bl - kn) = de v0 + bl - kn := IntWalk.i64_in _ (by omega)
  go_cut [10] (fun s10 wy => ∃ (p : Nat) (B : Option Addr), s10 = .pointer (some ⟨p, 0, none⟩) ∧ Ho (Blk wy p 24 [.bool false, .slice B 1 1, .int .i64 (de v0 + bl - kn)]) ∧ Ho (Rd wy B [1]) ∧ Ho (Bel wc wy))
  case first =>
    have yd1 := KD2.out.cell (i := 1) rfl
    have yd2 := KD2.out.cell (i := 2) rfl
    have ed1 := World.new_ne wc _ yd1
    have ed2 := World.new_ne wc _ yd2
    have qd1 : pd ≠ wc.heap.size := by have := KD2.out.lt; omega
    have qd2 : ¬ (wc.heap.size = pd) := fun q => qd1 q.symm
    have LN := Ho.mk (fun (W : World) (g : Bel wc W) => R3.len_calls A0 c0 (dm v0) W (ND2.out.rd.bel g))
    rw [HBL.out] at LN
    go_region_held3 (fun w' => w'.cell? ⟨pd, 1, none⟩ = some (.slice A0 (digs (dm v0)).length c0) ∧ w'.cell? ⟨pd, 2, none⟩ = some (.int .i64 (de v0)))
      (first
        | go_keep
        | (go_split_ands
           refine ⟨?_, ?_⟩ <;> (apply Bel.cell (by assumption); assumption))
        | (all_goals (go_split_ands; apply Bel.cell (by assumption); assumption))
        | (go_split_ands
           refine ⟨?_, ?_⟩ <;> go_keep)
        | (go_split_ands
           refine ⟨?_, ?_⟩ <;> (refine Bel.cell ((Bel.refl _).alloc _) ?_; assumption))
        | (all_goals (go_split_ands; refine Bel.cell ((Bel.refl _).alloc _) ?_; assumption)))
      (first
        | (go_at_call 38; (with_reducible refine (LN.out _ (by first | exact (Bel.refl _).drew | exact ((Bel.refl _).alloc _).drew | exact ((Bel.refl _).drew).alloc _ | exact (((Bel.refl _).alloc _).alloc _).drew | exact (((Bel.refl _).drew).alloc _).alloc _)).mono ?_); rintro e wa ⟨rfl, rfl⟩))
    all_goals (go_wp2_with fail; go_meet)
    all_goals (first
      | exact ⟨_, _, rfl, ⟨(ordA wc _).1⟩, ⟨(ordA wc _).2.1⟩, ⟨(ordA wc _).2.2⟩⟩
      | exact ⟨_, _, rfl, ⟨(ordB wc _).1⟩, ⟨(ordB wc _).2.1⟩, ⟨(ordB wc _).2.2⟩⟩)
  obtain ⟨po, B1, rfl, KO, RO, HZ⟩ := hcut
  clear q1 q2 HBL d4 d0 d1 HB0 HB1 HL0 HL1
  have KL3 := Ho.mk (KL2.out.bel HZ.out)
  have KH3 := Ho.mk (KH2.out.bel HZ.out)
  have KD3 := Ho.mk (KD2.out.bel HZ.out)
  have KG3 := Ho.mk (KG.out.bel HZ.out)
  have nL := NL2.out.bel HZ.out
  have nH := NH2.out.bel HZ.out
  have nD := ND2.out.bel HZ.out
  have nG := NG.out.bel HZ.out
  have rO := RO.out
  have gw := GW2.out.trans HZ.out
  clear KL2 KH2 KD2 KG NL2 NH2 ND2 NG RO GW2 HZ
  rename_i wo
  have KB9_0 := Ho.mk (KG3.out)
  have yB9_0_0 := KB9_0.out.cell (i := 0) rfl
  have yB9_0_1 := KB9_0.out.cell (i := 1) rfl
  have yB9_0_2 := KB9_0.out.cell (i := 2) rfl
  have KB10_0 := Ho.mk (KO.out)
  have yB10_0_0 := KB10_0.out.cell (i := 0) rfl
  have yB10_0_1 := KB10_0.out.cell (i := 1) rfl
  have yB10_0_2 := KB10_0.out.cell (i := 2) rfl
  go_wp2_with fail
  (with_reducible refine (F0.sameLit1 nG rO (x := 1) rfl (by decide) (by decide) HE0.out HGAP.out).mono ?_); rintro e w1 ⟨rfl, b1⟩
  clear yB9_0_0 yB9_0_1 yB9_0_2 yB10_0_0 yB10_0_1 yB10_0_2
  have KB7_1 := Ho.mk ((KL3.out.bel ((Bel.refl _).trans b1)))
  have yB7_1_0 := KB7_1.out.cell (i := 0) rfl
  have yB7_1_1 := KB7_1.out.cell (i := 1) rfl
  have yB7_1_2 := KB7_1.out.cell (i := 2) rfl
  have KB0_1 := Ho.mk ((KD3.out.bel ((Bel.refl _).trans b1)))
  have yB0_1_0 := KB0_1.out.cell (i := 0) rfl
  have yB0_1_1 := KB0_1.out.cell (i := 1) rfl
  have yB0_1_2 := KB0_1.out.cell (i := 2) rfl
  go_wp2_with fail
  (with_reducible refine (F1.dCmp (TT.out.bel (gw.trans ((Bel.refl _).trans b1))) (nL.bel ((Bel.refl _).trans b1)) (nD.bel ((Bel.refl _).trans b1)) (by omega) (by omega) (r := r0) HR0.out).mono ?_); rintro e w2 ⟨rfl, b2⟩
  clear yB7_1_0 yB7_1_1 yB7_1_2 yB0_1_0 yB0_1_1 yB0_1_2
  have KB8_2 := Ho.mk ((KH3.out.bel (((Bel.refl _).trans b1).trans b2)))
  have yB8_2_0 := KB8_2.out.cell (i := 0) rfl
  have yB8_2_1 := KB8_2.out.cell (i := 1) rfl
  have yB8_2_2 := KB8_2.out.cell (i := 2) rfl
  have KB0_2 := Ho.mk ((KB0_1.out.bel ((Bel.refl _).trans b2)))
  have yB0_2_0 := KB0_2.out.cell (i := 0) rfl
  have yB0_2_1 := KB0_2.out.cell (i := 1) rfl
  have yB0_2_2 := KB0_2.out.cell (i := 2) rfl
  go_wp2_with fail
  (with_reducible refine (F1.dCmp (TT.out.bel (gw.trans (((Bel.refl _).trans b1).trans b2))) (nH.bel (((Bel.refl _).trans b1).trans b2)) (nD.bel (((Bel.refl _).trans b1).trans b2)) (by omega) (by omega) (r := r1) HR1.out).mono ?_); rintro e w3 ⟨rfl, b3⟩
  clear yB8_2_0 yB8_2_1 yB8_2_2 yB0_2_0 yB0_2_1 yB0_2_2
  have HE := Ho.mk (gw.trans ((((Bel.refl _).trans b1).trans b2).trans b3))
  go_wp2
  go_ret
  exact ⟨rfl, HE.out⟩
theorem cut_calls (n0 : Bool) (A0 : Option Addr) (c0 : Nat) (l0 : List Int) (e0 : Int) (a1 : Int) (w : World) (T : Tab w) (h0 : Rd w A0 l0) (k0 : l0.length ≤ c0) (b1 : 0 ≤ a1 ∧ a1 ≤ 255) :
    Calls Tryd.prog 6 #[.agg #[.bool n0, .slice A0 l0.length c0, .int .i64 e0], .int .u8 a1] w (Tells w (.bool true)) := by
  cases hg : (([⟨n0, A0, c0, l0, e0⟩] : List F2.DRow).all F2.goodB) with
  | false => exact no_calls n0 A0 c0 l0 e0 a1 w T h0 hg
  | true =>
    have hg2 := hg
    simp only [List.all_cons, List.all_nil, Bool.and_true] at hg2
    obtain ⟨v0, ea, eb, ec, len0, wd0⟩ := F2.good_num hg2
    dsimp only at ea eb ec
    subst ea eb ec
    have p0 : Dv w A0 c0 v0 200 392 := ⟨k0, h0, wd0⟩
    obtain ⟨kn, hkn⟩ := Int.eq_ofNat_of_zero_le (show 0 ≤ a1 % 40 + 1 by omega)
    rcases Nat.lt_or_ge kn (blen (dm v0)) with hf | hf
    · exact many_calls A0 c0 v0 a1 kn w T p0 len0 b1 hkn (by omega) (by omega) hf hg
    · exact few_calls A0 c0 v0 a1 kn w T p0 len0 b1 hkn (by omega) (by omega) hf hg
end Go.Proofs.YtnmjnjhijcnbcaaDoor.Fc
