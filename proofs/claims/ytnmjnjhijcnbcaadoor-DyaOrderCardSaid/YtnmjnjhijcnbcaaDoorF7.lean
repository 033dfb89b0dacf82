/-
  The walk of DyaOrder (its steps are printed by gen2.py).
-/
import Derived.Test.YtnmjnjhijcnbcaaDoorF3
import Derived.Test.YtnmjnjhijcnbcaaDoorF2
import Derived.Test.YtnmjnjhijcnbcaaDoorF6
import Derived.Deep.RegionHeld3
import Derived.Deep.DrawnRows
set_option linter.unusedVariables false
set_option linter.unusedSimpArgs false
namespace Go.Proofs.YtnmjnjhijcnbcaaDoor.F7
open Go Go.RowKit Go.Proofs.YtnmjnjhijcnbcaaDoor Go.Proofs.YtnmjnjhijcnbcaaDoor.Ow Go.Proofs.YtnmjnjhijcnbcaaDoor.Pl Go.Proofs.YtnmjnjhijcnbcaaDoor.Dp Go.Proofs.YtnmjnjhijcnbcaaDoor.Dt Go.Proofs.YtnmjnjhijcnbcaaDoor.D3 Go.Proofs.YtnmjnjhijcnbcaaDoor.E7 Go.Proofs.YtnmjnjhijcnbcaaDoor.F1

attribute [local go_sem ↓] Go.wp_at_zero Go.wp_at_succ
theorem order_good {w : World} (n0 : Bool) {A0 : Option Addr} (c0 : Nat) {l0 : List Int} (e0 : Int) (n1 : Bool) {A1 : Option Addr} (c1 : Nat) {l1 : List Int} (e1 : Int) (n2 : Bool) {A2 : Option Addr} (c2 : Nat) {l2 : List Int} (e2 : Int) (h0 : Rd w A0 l0) (h1 : Rd w A1 l1) (h2 : Rd w A2 l2) (W : World) (g : Bel w W) :
    Calls Tryd.prog 18 #[.slice (some ⟨W.heap.size, 0, none⟩) 3 3] (W.alloc (.cells #[.bool n0, .slice A0 l0.length c0, .int .i64 e0, .bool n1, .slice A1 l1.length c1, .int .i64 e1, .bool n2, .slice A2 l2.length c2, .int .i64 e2] 24)) (Tells (W.alloc (.cells #[.bool n0, .slice A0 l0.length c0, .int .i64 e0, .bool n1, .slice A1 l1.length c1, .int .i64 e1, .bool n2, .slice A2 l2.length c2, .int .i64 e2] 24)) (.bool (([⟨n0, A0, c0, l0, e0⟩, ⟨n1, A1, c1, l1, e1⟩, ⟨n2, A2, c2, l2, e2⟩] : List F2.DRow).all F2.goodB))) :=
  F2.good_calls W.heap.size 3 [⟨n0, A0, c0, l0, e0⟩, ⟨n1, A1, c1, l1, e1⟩, ⟨n2, A2, c2, l2, e2⟩] _ rfl (by decide) (Blk.new W [.bool n0, .slice A0 l0.length c0, .int .i64 e0, .bool n1, .slice A1 l1.length c1, .int .i64 e1, .bool n2, .slice A2 l2.length c2, .int .i64 e2] 24) (by
    intro r hr
    simp only [List.mem_cons, List.not_mem_nil, or_false] at hr
    rcases hr with rfl | rfl | rfl
    · exact (h0.bel g).bel ((Bel.refl _).alloc _)
    · exact (h1.bel g).bel ((Bel.refl _).alloc _)
    · exact (h2.bel g).bel ((Bel.refl _).alloc _)
    )
set_option maxRecDepth 100000 in
set_option maxHeartbeats 40000000 in
theorem order_calls (n0 : Bool) (A0 : Option Addr) (c0 : Nat) (l0 : List Int) (e0 : Int) (n1 : Bool) (A1 : Option Addr) (c1 : Nat) (l1 : List Int) (e1 : Int) (n2 : Bool) (A2 : Option Addr) (c2 : Nat) (l2 : List Int) (e2 : Int)  (w : World) (T : Tab w) (h0 : Rd w A0 l0) (k0 : l0.length ≤ c0) (h1 : Rd w A1 l1) (k1 : l1.length ≤ c1) (h2 : Rd w A2 l2) (k2 : l2.length ≤ c2) :
    Calls Tryd.prog 5 #[.agg #[.bool n0, .slice A0 l0.length c0, .int .i64 e0], .agg #[.bool n1, .slice A1 l1.length c1, .int .i64 e1], .agg #[.bool n2, .slice A2 l2.length c2, .int .i64 e2]] w (Tells w (.bool true)) := by
  have TT := Ho.mk T
  clear T
  have HG := Ho.mk (order_good n0 c0 e0 n1 c1 e1 n2 c2 e2 h0 h1 h2)
  cases hg : (([⟨n0, A0, c0, l0, e0⟩, ⟨n1, A1, c1, l1, e1⟩, ⟨n2, A2, c2, l2, e2⟩] : List F2.DRow).all F2.goodB) with
  | false =>
    rw [hg] at HG
    clear hg
    go_enter Tryd.func5, Tryd.ntmps5
    go_wp2_with fail
    have KB0 := Ho.mk (((Blk.new w [.bool n0, .slice A0 l0.length c0, .int .i64 e0] 24).old (.cells #[.bool n1, .slice A1 l1.length c1, .int .i64 e1] 24)).old (.cells #[.bool n2, .slice A2 l2.length c2, .int .i64 e2] 24))
    have KB1 := Ho.mk ((Blk.new (w.alloc (.cells #[.bool n0, .slice A0 l0.length c0, .int .i64 e0] 24)) [.bool n1, .slice A1 l1.length c1, .int .i64 e1] 24).old (.cells #[.bool n2, .slice A2 l2.length c2, .int .i64 e2] 24))
    have KB2 := Ho.mk (Blk.new ((w.alloc (.cells #[.bool n0, .slice A0 l0.length c0, .int .i64 e0] 24)).alloc (.cells #[.bool n1, .slice A1 l1.length c1, .int .i64 e1] 24)) [.bool n2, .slice A2 l2.length c2, .int .i64 e2] 24)
    have g0 := (((Bel.refl w).alloc (.cells #[.bool n0, .slice A0 l0.length c0, .int .i64 e0] 24)).alloc (.cells #[.bool n1, .slice A1 l1.length c1, .int .i64 e1] 24)).alloc (.cells #[.bool n2, .slice A2 l2.length c2, .int .i64 e2] 24)
    rw [World.size_alloc] at KB1
    rw [World.size_alloc, World.size_alloc] at KB2
    have hZ : (((w.alloc (.cells #[.bool n0, .slice A0 l0.length c0, .int .i64 e0] 24)).alloc (.cells #[.bool n1, .slice A1 l1.length c1, .int .i64 e1] 24)).alloc (.cells #[.bool n2, .slice A2 l2.length c2, .int .i64 e2] 24)) = (((w.alloc (.cells #[.bool n0, .slice A0 l0.length c0, .int .i64 e0] 24)).alloc (.cells #[.bool n1, .slice A1 l1.length c1, .int .i64 e1] 24)).alloc (.cells #[.bool n2, .slice A2 l2.length c2, .int .i64 e2] 24)) := rfl
    generalize (((w.alloc (.cells #[.bool n0, .slice A0 l0.length c0, .int .i64 e0] 24)).alloc (.cells #[.bool n1, .slice A1 l1.length c1, .int .i64 e1] 24)).alloc (.cells #[.bool n2, .slice A2 l2.length c2, .int .i64 e2] 24)) = w0 at *
    clear hZ
    (with_reducible refine (F3.head_calls _ (TT.out.bel g0)).mono ?_); rintro e w1 ⟨rfl, b1⟩
    have K0_1 := Ho.mk (KB0.out.bel b1)
    have y0_0 := K0_1.out.cell (i := 0) rfl
    have y0_1 := K0_1.out.cell (i := 1) rfl
    have y0_2 := K0_1.out.cell (i := 2) rfl
    have K1_1 := Ho.mk (KB1.out.bel b1)
    have y1_0 := K1_1.out.cell (i := 0) rfl
    have y1_1 := K1_1.out.cell (i := 1) rfl
    have y1_2 := K1_1.out.cell (i := 2) rfl
    have K2_1 := Ho.mk (KB2.out.bel b1)
    have y2_0 := K2_1.out.cell (i := 0) rfl
    have y2_1 := K2_1.out.cell (i := 1) rfl
    have y2_2 := K2_1.out.cell (i := 2) rfl
    go_wp2_with fail
    (with_reducible refine (HG.out _ (g0.trans b1)).mono ?_); rintro e w2 ⟨rfl, b2⟩
    have HE := Ho.mk (g0.trans ((b1.alloc _).trans b2))
    go_wp2
    go_ret
    exact ⟨rfl, HE.out⟩
  | true =>
    rw [hg] at HG
    simp only [List.all_cons, List.all_nil, Bool.and_true, Bool.and_eq_true] at hg
    obtain ⟨q0, q1, q2⟩ := hg
    obtain ⟨v0, ea, eb, ec, len0, wd0⟩ := F2.good_num q0
    dsimp only at ea eb ec
    subst ea eb ec
    have p0 : Dv w A0 c0 v0 200 392 := ⟨k0, h0, wd0⟩
    clear q0
    obtain ⟨v1, ea, eb, ec, len1, wd1⟩ := F2.good_num q1
    dsimp only at ea eb ec
    subst ea eb ec
    have p1 : Dv w A1 c1 v1 200 392 := ⟨k1, h1, wd1⟩
    clear q1
    obtain ⟨v2, ea, eb, ec, len2, wd2⟩ := F2.good_num q2
    dsimp only at ea eb ec
    subst ea eb ec
    have p2 : Dv w A2 c2 v2 200 392 := ⟨k2, h2, wd2⟩
    clear q2
    clear h0 k0 h1 k1 h2 k2
    obtain ⟨x, hx⟩ : ∃ x, cmpI v0 v1 = x := ⟨_, rfl⟩
    have HX := Ho.mk hx
    have hx1 : -1 ≤ x := by rw [← hx]; exact (F4.cmp_range _ _).1
    have hx2 : x ≤ 1 := by rw [← hx]; exact (F4.cmp_range _ _).2
    clear hx
    obtain ⟨q, hq⟩ : ∃ q, (x == 0) = q := ⟨_, rfl⟩
    have HQ : Ho (decide (v0 = v1) = q) := ⟨by rw [← hq, ← HX.out, F4.cmp_zero]⟩
    have hxa : decide (x < -1) = false := decide_eq_false (by omega)
    have hxb : decide (1 < x) = false := decide_eq_false (by omega)
    obtain ⟨s0, hs0⟩ : ∃ s, sgn v0 = s := ⟨_, rfl⟩
    obtain ⟨s1, hs1⟩ : ∃ s, sgn v1 = s := ⟨_, rfl⟩
    have HS0 := Ho.mk hs0
    have HS1 := Ho.mk hs1
    have hr0 := F4.cmp_range v0 0
    have hr1 := F4.cmp_range v1 0
    have hss : IntKind.i64.wrap (s0 * s1) = s0 * s1 := IntWalk.i64_in _ (by
      rw [← hs0, ← hs1]; unfold sgn
      rcases (show cmpI v0 0 = -1 ∨ cmpI v0 0 = 0 ∨ cmpI v0 0 = 1 by omega) with h | h | h <;> rcases (show cmpI v1 0 = -1 ∨ cmpI v1 0 = 0 ∨ cmpI v1 0 = 1 by omega) with h' | h' | h' <;> rw [h, h'] <;> decide)
    have hwn : IntKind.i64.wrap (-x) = -x := IntWalk.i64_in _ (by omega)
    clear hs0 hs1 hr0 hr1
    go_enter Tryd.func5, Tryd.ntmps5
    go_wp2_with fail
    have KB0 := Ho.mk (((Blk.new w [.bool (dneg v0), .slice A0 (digs (dm v0)).length c0, .int .i64 (de v0)] 24).old (.cells #[.bool (dneg v1), .slice A1 (digs (dm v1)).length c1, .int .i64 (de v1)] 24)).old (.cells #[.bool (dneg v2), .slice A2 (digs (dm v2)).length c2, .int .i64 (de v2)] 24))
    have KB1 := Ho.mk ((Blk.new (w.alloc (.cells #[.bool (dneg v0), .slice A0 (digs (dm v0)).length c0, .int .i64 (de v0)] 24)) [.bool (dneg v1), .slice A1 (digs (dm v1)).length c1, .int .i64 (de v1)] 24).old (.cells #[.bool (dneg v2), .slice A2 (digs (dm v2)).length c2, .int .i64 (de v2)] 24))
    have KB2 := Ho.mk (Blk.new ((w.alloc (.cells #[.bool (dneg v0), .slice A0 (digs (dm v0)).length c0, .int .i64 (de v0)] 24)).alloc (.cells #[.bool (dneg v1), .slice A1 (digs (dm v1)).length c1, .int .i64 (de v1)] 24)) [.bool (dneg v2), .slice A2 (digs (dm v2)).length c2, .int .i64 (de v2)] 24)
    have g0 := (((Bel.refl w).alloc (.cells #[.bool (dneg v0), .slice A0 (digs (dm v0)).length c0, .int .i64 (de v0)] 24)).alloc (.cells #[.bool (dneg v1), .slice A1 (digs (dm v1)).length c1, .int .i64 (de v1)] 24)).alloc (.cells #[.bool (dneg v2), .slice A2 (digs (dm v2)).length c2, .int .i64 (de v2)] 24)
    rw [World.size_alloc] at KB1
    rw [World.size_alloc, World.size_alloc] at KB2
    have hZ : (((w.alloc (.cells #[.bool (dneg v0), .slice A0 (digs (dm v0)).length c0, .int .i64 (de v0)] 24)).alloc (.cells #[.bool (dneg v1), .slice A1 (digs (dm v1)).length c1, .int .i64 (de v1)] 24)).alloc (.cells #[.bool (dneg v2), .slice A2 (digs (dm v2)).length c2, .int .i64 (de v2)] 24)) = (((w.alloc (.cells #[.bool (dneg v0), .slice A0 (digs (dm v0)).length c0, .int .i64 (de v0)] 24)).alloc (.cells #[.bool (dneg v1), .slice A1 (digs (dm v1)).length c1, .int .i64 (de v1)] 24)).alloc (.cells #[.bool (dneg v2), .slice A2 (digs (dm v2)).length c2, .int .i64 (de v2)] 24)) := rfl
    generalize (((w.alloc (.cells #[.bool (dneg v0), .slice A0 (digs (dm v0)).length c0, .int .i64 (de v0)] 24)).alloc (.cells #[.bool (dneg v1), .slice A1 (digs (dm v1)).length c1, .int .i64 (de v1)] 24)).alloc (.cells #[.bool (dneg v2), .slice A2 (digs (dm v2)).length c2, .int .i64 (de v2)] 24)) = w0 at *
    clear hZ
    (with_reducible refine (F3.head_calls _ (TT.out.bel (g0.trans (Bel.refl _)))).mono ?_); rintro e w1 ⟨rfl, b1⟩
    have KB0_1 := Ho.mk ((KB0.out.bel ((Bel.refl _).trans b1)))
    have yB0_1_0 := KB0_1.out.cell (i := 0) rfl
    have yB0_1_1 := KB0_1.out.cell (i := 1) rfl
    have yB0_1_2 := KB0_1.out.cell (i := 2) rfl
    have KB1_1 := Ho.mk ((KB1.out.bel ((Bel.refl _).trans b1)))
    have yB1_1_0 := KB1_1.out.cell (i := 0) rfl
    have yB1_1_1 := KB1_1.out.cell (i := 1) rfl
    have yB1_1_2 := KB1_1.out.cell (i := 2) rfl
    have KB2_1 := Ho.mk ((KB2.out.bel ((Bel.refl _).trans b1)))
    have yB2_1_0 := KB2_1.out.cell (i := 0) rfl
    have yB2_1_1 := KB2_1.out.cell (i := 1) rfl
    have yB2_1_2 := KB2_1.out.cell (i := 2) rfl
    go_wp2_with fail
    (with_reducible refine ((HG.out _ (g0.trans ((Bel.refl _).trans b1)))).mono ?_); rintro e w2 ⟨rfl, b2⟩
    clear yB0_1_0 yB0_1_1 yB0_1_2 yB1_1_0 yB1_1_1 yB1_1_2 yB2_1_0 yB2_1_1 yB2_1_2
    have KB0_2 := Ho.mk ((KB0_1.out.bel (((Bel.refl _).alloc (.cells #[.bool (dneg v0), .slice A0 (digs (dm v0)).length c0, .int .i64 (de v0), .bool (dneg v1), .slice A1 (digs (dm v1)).length c1, .int .i64 (de v1), .bool (dneg v2), .slice A2 (digs (dm v2)).length c2, .int .i64 (de v2)] 24)).trans b2)))
    have yB0_2_0 := KB0_2.out.cell (i := 0) rfl
    have yB0_2_1 := KB0_2.out.cell (i := 1) rfl
    have yB0_2_2 := KB0_2.out.cell (i := 2) rfl
    have KB1_2 := Ho.mk ((KB1_1.out.bel (((Bel.refl _).alloc (.cells #[.bool (dneg v0), .slice A0 (digs (dm v0)).length c0, .int .i64 (de v0), .bool (dneg v1), .slice A1 (digs (dm v1)).length c1, .int .i64 (de v1), .bool (dneg v2), .slice A2 (digs (dm v2)).length c2, .int .i64 (de v2)] 24)).trans b2)))
    have yB1_2_0 := KB1_2.out.cell (i := 0) rfl
    have yB1_2_1 := KB1_2.out.cell (i := 1) rfl
    have yB1_2_2 := KB1_2.out.cell (i := 2) rfl
    go_wp2_with fail
    (with_reducible refine (F1.dCmp (TT.out.bel (g0.trans ((((Bel.refl _).trans b1).alloc (.cells #[.bool (dneg v0), .slice A0 (digs (dm v0)).length c0, .int .i64 (de v0), .bool (dneg v1), .slice A1 (digs (dm v1)).length c1, .int .i64 (de v1), .bool (dneg v2), .slice A2 (digs (dm v2)).length c2, .int .i64 (de v2)] 24)).trans b2))) ((p0.bel g0).bel ((((Bel.refl _).trans b1).alloc (.cells #[.bool (dneg v0), .slice A0 (digs (dm v0)).length c0, .int .i64 (de v0), .bool (dneg v1), .slice A1 (digs (dm v1)).length c1, .int .i64 (de v1), .bool (dneg v2), .slice A2 (digs (dm v2)).length c2, .int .i64 (de v2)] 24)).trans b2)) ((p1.bel g0).bel ((((Bel.refl _).trans b1).alloc (.cells #[.bool (dneg v0), .slice A0 (digs (dm v0)).length c0, .int .i64 (de v0), .bool (dneg v1), .slice A1 (digs (dm v1)).length c1, .int .i64 (de v1), .bool (dneg v2), .slice A2 (digs (dm v2)).length c2, .int .i64 (de v2)] 24)).trans b2)) (by omega) (by omega) (r := x) HX.out).mono ?_); rintro e w3 ⟨rfl, b3⟩
    clear yB0_2_0 yB0_2_1 yB0_2_2 yB1_2_0 yB1_2_1 yB1_2_2
    have KB0_3 := Ho.mk ((KB0_2.out.bel ((Bel.refl _).trans b3)))
    have yB0_3_0 := KB0_3.out.cell (i := 0) rfl
    have yB0_3_1 := KB0_3.out.cell (i := 1) rfl
    have yB0_3_2 := KB0_3.out.cell (i := 2) rfl
    have KB1_3 := Ho.mk ((KB1_2.out.bel ((Bel.refl _).trans b3)))
    have yB1_3_0 := KB1_3.out.cell (i := 0) rfl
    have yB1_3_1 := KB1_3.out.cell (i := 1) rfl
    have yB1_3_2 := KB1_3.out.cell (i := 2) rfl
    go_wp2_with fail
    (with_reducible refine (F1.sameB ((p0.bel g0).bel (((((Bel.refl _).trans b1).alloc (.cells #[.bool (dneg v0), .slice A0 (digs (dm v0)).length c0, .int .i64 (de v0), .bool (dneg v1), .slice A1 (digs (dm v1)).length c1, .int .i64 (de v1), .bool (dneg v2), .slice A2 (digs (dm v2)).length c2, .int .i64 (de v2)] 24)).trans b2).trans b3)) ((p1.bel g0).bel (((((Bel.refl _).trans b1).alloc (.cells #[.bool (dneg v0), .slice A0 (digs (dm v0)).length c0, .int .i64 (de v0), .bool (dneg v1), .slice A1 (digs (dm v1)).length c1, .int .i64 (de v1), .bool (dneg v2), .slice A2 (digs (dm v2)).length c2, .int .i64 (de v2)] 24)).trans b2).trans b3)) (b := q) HQ.out).mono ?_); rintro e w4 ⟨rfl, b4⟩
    clear yB0_3_0 yB0_3_1 yB0_3_2 yB1_3_0 yB1_3_1 yB1_3_2
    have KB1_4 := Ho.mk ((KB1_3.out.bel ((Bel.refl _).trans b4)))
    have yB1_4_0 := KB1_4.out.cell (i := 0) rfl
    have yB1_4_1 := KB1_4.out.cell (i := 1) rfl
    have yB1_4_2 := KB1_4.out.cell (i := 2) rfl
    have KB0_4 := Ho.mk ((KB0_3.out.bel ((Bel.refl _).trans b4)))
    have yB0_4_0 := KB0_4.out.cell (i := 0) rfl
    have yB0_4_1 := KB0_4.out.cell (i := 1) rfl
    have yB0_4_2 := KB0_4.out.cell (i := 2) rfl
    go_wp2_with fail
    (with_reducible refine (F1.dCmp (TT.out.bel (g0.trans ((((((Bel.refl _).trans b1).alloc (.cells #[.bool (dneg v0), .slice A0 (digs (dm v0)).length c0, .int .i64 (de v0), .bool (dneg v1), .slice A1 (digs (dm v1)).length c1, .int .i64 (de v1), .bool (dneg v2), .slice A2 (digs (dm v2)).length c2, .int .i64 (de v2)] 24)).trans b2).trans b3).trans b4))) ((p1.bel g0).bel ((((((Bel.refl _).trans b1).alloc (.cells #[.bool (dneg v0), .slice A0 (digs (dm v0)).length c0, .int .i64 (de v0), .bool (dneg v1), .slice A1 (digs (dm v1)).length c1, .int .i64 (de v1), .bool (dneg v2), .slice A2 (digs (dm v2)).length c2, .int .i64 (de v2)] 24)).trans b2).trans b3).trans b4)) ((p0.bel g0).bel ((((((Bel.refl _).trans b1).alloc (.cells #[.bool (dneg v0), .slice A0 (digs (dm v0)).length c0, .int .i64 (de v0), .bool (dneg v1), .slice A1 (digs (dm v1)).length c1, .int .i64 (de v1), .bool (dneg v2), .slice A2 (digs (dm v2)).length c2, .int .i64 (de v2)] 24)).trans b2).trans b3).trans b4)) (by omega) (by omega) (r := -x) ((F4.cmp_swap _ _).trans (congrArg _ HX.out))).mono ?_); rintro e w5 ⟨rfl, b5⟩
    clear yB1_4_0 yB1_4_1 yB1_4_2 yB0_4_0 yB0_4_1 yB0_4_2
    go_wp2_with fail
    have KB0_r7 := Ho.mk ((KB0_4.out.bel ((Bel.refl _).trans b5)))
    have yB0_r7_0 := KB0_r7.out.cell (i := 0) rfl
    have yB0_r7_1 := KB0_r7.out.cell (i := 1) rfl
    have yB0_r7_2 := KB0_r7.out.cell (i := 2) rfl
    have KB1_r7 := Ho.mk ((KB1_4.out.bel ((Bel.refl _).trans b5)))
    have yB1_r7_0 := KB1_r7.out.cell (i := 0) rfl
    have yB1_r7_1 := KB1_r7.out.cell (i := 1) rfl
    have yB1_r7_2 := KB1_r7.out.cell (i := 2) rfl
    have KB2_r7 := Ho.mk ((KB2_1.out.bel ((((((Bel.refl _).alloc (.cells #[.bool (dneg v0), .slice A0 (digs (dm v0)).length c0, .int .i64 (de v0), .bool (dneg v1), .slice A1 (digs (dm v1)).length c1, .int .i64 (de v1), .bool (dneg v2), .slice A2 (digs (dm v2)).length c2, .int .i64 (de v2)] 24)).trans b2).trans b3).trans b4).trans b5)))
    have yB2_r7_0 := KB2_r7.out.cell (i := 0) rfl
    have yB2_r7_1 := KB2_r7.out.cell (i := 1) rfl
    have yB2_r7_2 := KB2_r7.out.cell (i := 2) rfl
    go_region_held3 (fun w' => w'.cell? ⟨w.heap.size, 0, none⟩ = some (.bool (dneg v0)) ∧ w'.cell? ⟨w.heap.size, 1, none⟩ = some (.slice A0 (digs (dm v0)).length c0) ∧ w'.cell? ⟨w.heap.size, 2, none⟩ = some (.int .i64 (de v0)) ∧ w'.cell? ⟨w.heap.size + 1, 0, none⟩ = some (.bool (dneg v1)) ∧ w'.cell? ⟨w.heap.size + 1, 1, none⟩ = some (.slice A1 (digs (dm v1)).length c1) ∧ w'.cell? ⟨w.heap.size + 1, 2, none⟩ = some (.int .i64 (de v1)) ∧ w'.cell? ⟨w.heap.size + 1 + 1, 0, none⟩ = some (.bool (dneg v2)) ∧ w'.cell? ⟨w.heap.size + 1 + 1, 1, none⟩ = some (.slice A2 (digs (dm v2)).length c2) ∧ w'.cell? ⟨w.heap.size + 1 + 1, 2, none⟩ = some (.int .i64 (de v2)))
      (first
        | go_keep
        | (go_split_ands
           refine ⟨?_, ?_, ?_, ?_, ?_, ?_, ?_, ?_, ?_⟩ <;> (apply Bel.cell (by assumption); assumption))
        | (all_goals (go_split_ands; apply Bel.cell (by assumption); assumption)))
      (first
        | (go_at_call 20; (with_reducible refine (F1.dAdd (TT.out.bel (g0.trans ((((((((Bel.refl _).trans b1).alloc (.cells #[.bool (dneg v0), .slice A0 (digs (dm v0)).length c0, .int .i64 (de v0), .bool (dneg v1), .slice A1 (digs (dm v1)).length c1, .int .i64 (de v1), .bool (dneg v2), .slice A2 (digs (dm v2)).length c2, .int .i64 (de v2)] 24)).trans b2).trans b3).trans b4).trans b5).drew))) ((p0.bel g0).bel ((((((((Bel.refl _).trans b1).alloc (.cells #[.bool (dneg v0), .slice A0 (digs (dm v0)).length c0, .int .i64 (de v0), .bool (dneg v1), .slice A1 (digs (dm v1)).length c1, .int .i64 (de v1), .bool (dneg v2), .slice A2 (digs (dm v2)).length c2, .int .i64 (de v2)] 24)).trans b2).trans b3).trans b4).trans b5).drew)) ((p2.bel g0).bel ((((((((Bel.refl _).trans b1).alloc (.cells #[.bool (dneg v0), .slice A0 (digs (dm v0)).length c0, .int .i64 (de v0), .bool (dneg v1), .slice A1 (digs (dm v1)).length c1, .int .i64 (de v1), .bool (dneg v2), .slice A2 (digs (dm v2)).length c2, .int .i64 (de v2)] 24)).trans b2).trans b3).trans b4).trans b5).drew)) (by omega) (by omega)).mono ?_); rintro e w6 ⟨A6, c6, rfl, n6, b6⟩)
        | (go_at_call 20; (with_reducible refine (F1.dAdd (TT.out.bel (g0.trans (((((((((Bel.refl _).trans b1).alloc (.cells #[.bool (dneg v0), .slice A0 (digs (dm v0)).length c0, .int .i64 (de v0), .bool (dneg v1), .slice A1 (digs (dm v1)).length c1, .int .i64 (de v1), .bool (dneg v2), .slice A2 (digs (dm v2)).length c2, .int .i64 (de v2)] 24)).trans b2).trans b3).trans b4).trans b5).drew).trans b6))) ((p1.bel g0).bel (((((((((Bel.refl _).trans b1).alloc (.cells #[.bool (dneg v0), .slice A0 (digs (dm v0)).length c0, .int .i64 (de v0), .bool (dneg v1), .slice A1 (digs (dm v1)).length c1, .int .i64 (de v1), .bool (dneg v2), .slice A2 (digs (dm v2)).length c2, .int .i64 (de v2)] 24)).trans b2).trans b3).trans b4).trans b5).drew).trans b6)) ((p2.bel g0).bel (((((((((Bel.refl _).trans b1).alloc (.cells #[.bool (dneg v0), .slice A0 (digs (dm v0)).length c0, .int .i64 (de v0), .bool (dneg v1), .slice A1 (digs (dm v1)).length c1, .int .i64 (de v1), .bool (dneg v2), .slice A2 (digs (dm v2)).length c2, .int .i64 (de v2)] 24)).trans b2).trans b3).trans b4).trans b5).drew).trans b6)) (by omega) (by omega)).mono ?_); rintro e w7 ⟨A7, c7, rfl, n7, b7⟩)
        | (go_at_call 24; (with_reducible refine (F1.dCmp (TT.out.bel (g0.trans ((((((((((Bel.refl _).trans b1).alloc (.cells #[.bool (dneg v0), .slice A0 (digs (dm v0)).length c0, .int .i64 (de v0), .bool (dneg v1), .slice A1 (digs (dm v1)).length c1, .int .i64 (de v1), .bool (dneg v2), .slice A2 (digs (dm v2)).length c2, .int .i64 (de v2)] 24)).trans b2).trans b3).trans b4).trans b5).drew).trans b6).trans b7))) (n6.bel ((Bel.refl _).trans b7)) n7 (by omega) (by omega) (r := x) ((F4.cmp_add _ _ _).trans HX.out)).mono ?_); rintro e w8 ⟨rfl, b8⟩)
        | (go_at_call 28; (with_reducible refine (F1.dFlip (TT.out.bel (g0.trans (((((((((((Bel.refl _).trans b1).alloc (.cells #[.bool (dneg v0), .slice A0 (digs (dm v0)).length c0, .int .i64 (de v0), .bool (dneg v1), .slice A1 (digs (dm v1)).length c1, .int .i64 (de v1), .bool (dneg v2), .slice A2 (digs (dm v2)).length c2, .int .i64 (de v2)] 24)).trans b2).trans b3).trans b4).trans b5).drew).trans b6).trans b7).trans b8))) ((p0.bel g0).bel (((((((((((Bel.refl _).trans b1).alloc (.cells #[.bool (dneg v0), .slice A0 (digs (dm v0)).length c0, .int .i64 (de v0), .bool (dneg v1), .slice A1 (digs (dm v1)).length c1, .int .i64 (de v1), .bool (dneg v2), .slice A2 (digs (dm v2)).length c2, .int .i64 (de v2)] 24)).trans b2).trans b3).trans b4).trans b5).drew).trans b6).trans b7).trans b8)) (by omega)).mono ?_); rintro e w9 ⟨A9, c9, rfl, n9, b9⟩)
        | (go_at_call 28; (with_reducible refine (F1.dFlip (TT.out.bel (g0.trans ((((((((((((Bel.refl _).trans b1).alloc (.cells #[.bool (dneg v0), .slice A0 (digs (dm v0)).length c0, .int .i64 (de v0), .bool (dneg v1), .slice A1 (digs (dm v1)).length c1, .int .i64 (de v1), .bool (dneg v2), .slice A2 (digs (dm v2)).length c2, .int .i64 (de v2)] 24)).trans b2).trans b3).trans b4).trans b5).drew).trans b6).trans b7).trans b8).trans b9))) ((p1.bel g0).bel ((((((((((((Bel.refl _).trans b1).alloc (.cells #[.bool (dneg v0), .slice A0 (digs (dm v0)).length c0, .int .i64 (de v0), .bool (dneg v1), .slice A1 (digs (dm v1)).length c1, .int .i64 (de v1), .bool (dneg v2), .slice A2 (digs (dm v2)).length c2, .int .i64 (de v2)] 24)).trans b2).trans b3).trans b4).trans b5).drew).trans b6).trans b7).trans b8).trans b9)) (by omega)).mono ?_); rintro e w10 ⟨A10, c10, rfl, n10, b10⟩)
        | (go_at_call 24; (with_reducible refine (F1.dCmp (TT.out.bel (g0.trans (((((((((((((Bel.refl _).trans b1).alloc (.cells #[.bool (dneg v0), .slice A0 (digs (dm v0)).length c0, .int .i64 (de v0), .bool (dneg v1), .slice A1 (digs (dm v1)).length c1, .int .i64 (de v1), .bool (dneg v2), .slice A2 (digs (dm v2)).length c2, .int .i64 (de v2)] 24)).trans b2).trans b3).trans b4).trans b5).drew).trans b6).trans b7).trans b8).trans b9).trans b10))) (n9.bel ((Bel.refl _).trans b10)) n10 (by omega) (by omega) (r := -x) ((F4.cmp_neg _ _).trans (congrArg _ HX.out))).mono ?_); rintro e w11 ⟨rfl, b11⟩)
        | (go_at_call 28; (with_reducible refine (F1.dFlip (TT.out.bel (g0.trans ((((((((((((((Bel.refl _).trans b1).alloc (.cells #[.bool (dneg v0), .slice A0 (digs (dm v0)).length c0, .int .i64 (de v0), .bool (dneg v1), .slice A1 (digs (dm v1)).length c1, .int .i64 (de v1), .bool (dneg v2), .slice A2 (digs (dm v2)).length c2, .int .i64 (de v2)] 24)).trans b2).trans b3).trans b4).trans b5).drew).trans b6).trans b7).trans b8).trans b9).trans b10).trans b11))) ((p1.bel g0).bel ((((((((((((((Bel.refl _).trans b1).alloc (.cells #[.bool (dneg v0), .slice A0 (digs (dm v0)).length c0, .int .i64 (de v0), .bool (dneg v1), .slice A1 (digs (dm v1)).length c1, .int .i64 (de v1), .bool (dneg v2), .slice A2 (digs (dm v2)).length c2, .int .i64 (de v2)] 24)).trans b2).trans b3).trans b4).trans b5).drew).trans b6).trans b7).trans b8).trans b9).trans b10).trans b11)) (by omega)).mono ?_); rintro e w12 ⟨A12, c12, rfl, n12, b12⟩)
        | (go_at_call 20; (with_reducible refine (F1.dAdd (TT.out.bel (g0.trans (((((((((((((((Bel.refl _).trans b1).alloc (.cells #[.bool (dneg v0), .slice A0 (digs (dm v0)).length c0, .int .i64 (de v0), .bool (dneg v1), .slice A1 (digs (dm v1)).length c1, .int .i64 (de v1), .bool (dneg v2), .slice A2 (digs (dm v2)).length c2, .int .i64 (de v2)] 24)).trans b2).trans b3).trans b4).trans b5).drew).trans b6).trans b7).trans b8).trans b9).trans b10).trans b11).trans b12))) ((p0.bel g0).bel (((((((((((((((Bel.refl _).trans b1).alloc (.cells #[.bool (dneg v0), .slice A0 (digs (dm v0)).length c0, .int .i64 (de v0), .bool (dneg v1), .slice A1 (digs (dm v1)).length c1, .int .i64 (de v1), .bool (dneg v2), .slice A2 (digs (dm v2)).length c2, .int .i64 (de v2)] 24)).trans b2).trans b3).trans b4).trans b5).drew).trans b6).trans b7).trans b8).trans b9).trans b10).trans b11).trans b12)) n12 (by omega) (by omega)).mono ?_); rintro e w13 ⟨A13, c13, rfl, n13, b13⟩)
        | (go_at_call 26; (with_reducible refine (F1.dSign n13 (r := x) ((sgn_sub _ _).trans HX.out)).mono ?_); rintro e w14 ⟨rfl, b14⟩)
        | (go_at_call 24; (with_reducible refine (F6.dCmp0r (TT.out.bel (g0.trans (((((((((((((((((Bel.refl _).trans b1).alloc (.cells #[.bool (dneg v0), .slice A0 (digs (dm v0)).length c0, .int .i64 (de v0), .bool (dneg v1), .slice A1 (digs (dm v1)).length c1, .int .i64 (de v1), .bool (dneg v2), .slice A2 (digs (dm v2)).length c2, .int .i64 (de v2)] 24)).trans b2).trans b3).trans b4).trans b5).drew).trans b6).trans b7).trans b8).trans b9).trans b10).trans b11).trans b12).trans b13).trans b14))) ((p0.bel g0).bel (((((((((((((((((Bel.refl _).trans b1).alloc (.cells #[.bool (dneg v0), .slice A0 (digs (dm v0)).length c0, .int .i64 (de v0), .bool (dneg v1), .slice A1 (digs (dm v1)).length c1, .int .i64 (de v1), .bool (dneg v2), .slice A2 (digs (dm v2)).length c2, .int .i64 (de v2)] 24)).trans b2).trans b3).trans b4).trans b5).drew).trans b6).trans b7).trans b8).trans b9).trans b10).trans b11).trans b12).trans b13).trans b14)) (by omega) (r := s0) HS0.out).mono ?_); rintro e w15 ⟨rfl, b15⟩)
        | (go_at_call 26; (with_reducible refine (F1.dSign ((p0.bel g0).bel ((((((((((((((((((Bel.refl _).trans b1).alloc (.cells #[.bool (dneg v0), .slice A0 (digs (dm v0)).length c0, .int .i64 (de v0), .bool (dneg v1), .slice A1 (digs (dm v1)).length c1, .int .i64 (de v1), .bool (dneg v2), .slice A2 (digs (dm v2)).length c2, .int .i64 (de v2)] 24)).trans b2).trans b3).trans b4).trans b5).drew).trans b6).trans b7).trans b8).trans b9).trans b10).trans b11).trans b12).trans b13).trans b14).trans b15)) (r := s0) HS0.out).mono ?_); rintro e w16 ⟨rfl, b16⟩)
        | (go_at_call 22; (with_reducible refine (F1.dMul (TT.out.bel (g0.trans (((((((((((((((((((Bel.refl _).trans b1).alloc (.cells #[.bool (dneg v0), .slice A0 (digs (dm v0)).length c0, .int .i64 (de v0), .bool (dneg v1), .slice A1 (digs (dm v1)).length c1, .int .i64 (de v1), .bool (dneg v2), .slice A2 (digs (dm v2)).length c2, .int .i64 (de v2)] 24)).trans b2).trans b3).trans b4).trans b5).drew).trans b6).trans b7).trans b8).trans b9).trans b10).trans b11).trans b12).trans b13).trans b14).trans b15).trans b16))) ((p0.bel g0).bel (((((((((((((((((((Bel.refl _).trans b1).alloc (.cells #[.bool (dneg v0), .slice A0 (digs (dm v0)).length c0, .int .i64 (de v0), .bool (dneg v1), .slice A1 (digs (dm v1)).length c1, .int .i64 (de v1), .bool (dneg v2), .slice A2 (digs (dm v2)).length c2, .int .i64 (de v2)] 24)).trans b2).trans b3).trans b4).trans b5).drew).trans b6).trans b7).trans b8).trans b9).trans b10).trans b11).trans b12).trans b13).trans b14).trans b15).trans b16)) ((p1.bel g0).bel (((((((((((((((((((Bel.refl _).trans b1).alloc (.cells #[.bool (dneg v0), .slice A0 (digs (dm v0)).length c0, .int .i64 (de v0), .bool (dneg v1), .slice A1 (digs (dm v1)).length c1, .int .i64 (de v1), .bool (dneg v2), .slice A2 (digs (dm v2)).length c2, .int .i64 (de v2)] 24)).trans b2).trans b3).trans b4).trans b5).drew).trans b6).trans b7).trans b8).trans b9).trans b10).trans b11).trans b12).trans b13).trans b14).trans b15).trans b16)) (by omega) (by omega)).mono ?_); rintro e w17 ⟨A17, c17, rfl, n17, b17⟩)
        | (go_at_call 26; (with_reducible refine (F1.dSign n17 (r := s0 * s1) ((F4.sgn_mulD wd0 wd1 (by omega)).trans (by rw [HS0.out, HS1.out]))).mono ?_); rintro e w18 ⟨rfl, b18⟩)
        | (go_at_call 26; (with_reducible refine (F1.dSign ((p0.bel g0).bel (((((((((((((((((((((Bel.refl _).trans b1).alloc (.cells #[.bool (dneg v0), .slice A0 (digs (dm v0)).length c0, .int .i64 (de v0), .bool (dneg v1), .slice A1 (digs (dm v1)).length c1, .int .i64 (de v1), .bool (dneg v2), .slice A2 (digs (dm v2)).length c2, .int .i64 (de v2)] 24)).trans b2).trans b3).trans b4).trans b5).drew).trans b6).trans b7).trans b8).trans b9).trans b10).trans b11).trans b12).trans b13).trans b14).trans b15).trans b16).trans b17).trans b18)) (r := s0) HS0.out).mono ?_); rintro e w19 ⟨rfl, b19⟩)
        | (go_at_call 26; (with_reducible refine (F1.dSign ((p1.bel g0).bel ((((((((((((((((((((((Bel.refl _).trans b1).alloc (.cells #[.bool (dneg v0), .slice A0 (digs (dm v0)).length c0, .int .i64 (de v0), .bool (dneg v1), .slice A1 (digs (dm v1)).length c1, .int .i64 (de v1), .bool (dneg v2), .slice A2 (digs (dm v2)).length c2, .int .i64 (de v2)] 24)).trans b2).trans b3).trans b4).trans b5).drew).trans b6).trans b7).trans b8).trans b9).trans b10).trans b11).trans b12).trans b13).trans b14).trans b15).trans b16).trans b17).trans b18).trans b19)) (r := s1) HS1.out).mono ?_); rintro e w20 ⟨rfl, b20⟩))
    have HE := Ho.mk (g0.trans (((((((((((((((((((((((Bel.refl _).trans b1).alloc (.cells #[.bool (dneg v0), .slice A0 (digs (dm v0)).length c0, .int .i64 (de v0), .bool (dneg v1), .slice A1 (digs (dm v1)).length c1, .int .i64 (de v1), .bool (dneg v2), .slice A2 (digs (dm v2)).length c2, .int .i64 (de v2)] 24)).trans b2).trans b3).trans b4).trans b5).drew).trans b6).trans b7).trans b8).trans b9).trans b10).trans b11).trans b12).trans b13).trans b14).trans b15).trans b16).trans b17).trans b18).trans b19).trans b20))
    go_wp2
    go_ret
    exact ⟨rfl, HE.out⟩
end Go.Proofs.YtnmjnjhijcnbcaaDoor.F7
