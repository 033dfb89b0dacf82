/-
  The walk of DyaTells (its steps are printed by gen2.py).
-/
import Derived.Test.YtnmjnjhijcnbcaaDoorFb
import Derived.Test.YtnmjnjhijcnbcaaDoorF3
import Derived.Test.YtnmjnjhijcnbcaaDoorF2
import Derived.Test.YtnmjnjhijcnbcaaDoorF6
import Derived.Deep.RegionHeld3
import Derived.Deep.DrawnRows
set_option linter.unusedVariables false
set_option linter.unusedSimpArgs false
namespace Go.Proofs.YtnmjnjhijcnbcaaDoor.Fa
open Go Go.RowKit Go.Proofs.YtnmjnjhijcnbcaaDoor Go.Proofs.YtnmjnjhijcnbcaaDoor.Ow Go.Proofs.YtnmjnjhijcnbcaaDoor.Pl Go.Proofs.YtnmjnjhijcnbcaaDoor.Dp Go.Proofs.YtnmjnjhijcnbcaaDoor.Dt Go.Proofs.YtnmjnjhijcnbcaaDoor.D3 Go.Proofs.YtnmjnjhijcnbcaaDoor.E7 Go.Proofs.YtnmjnjhijcnbcaaDoor.F1

attribute [local go_sem ↓] Go.wp_at_zero Go.wp_at_succ
theorem tells_good {w : World} (n1 : Bool) {A1 : Option Addr} (c1 : Nat) {l1 : List Int} (e1 : Int) (n2 : Bool) {A2 : Option Addr} (c2 : Nat) {l2 : List Int} (e2 : Int) (h1 : Rd w A1 l1) (h2 : Rd w A2 l2) (W : World) (g : Bel w W) :
    Calls Tryd.prog 18 #[.slice (some ⟨W.heap.size, 0, none⟩) 2 2] (W.alloc (.cells #[.bool n1, .slice A1 l1.length c1, .int .i64 e1, .bool n2, .slice A2 l2.length c2, .int .i64 e2] 24)) (Tells (W.alloc (.cells #[.bool n1, .slice A1 l1.length c1, .int .i64 e1, .bool n2, .slice A2 l2.length c2, .int .i64 e2] 24)) (.bool (([⟨n1, A1, c1, l1, e1⟩, ⟨n2, A2, c2, l2, e2⟩] : List F2.DRow).all F2.goodB))) :=
  F2.good_calls W.heap.size 2 [⟨n1, A1, c1, l1, e1⟩, ⟨n2, A2, c2, l2, e2⟩] _ rfl (by decide) (Blk.new W [.bool n1, .slice A1 l1.length c1, .int .i64 e1, .bool n2, .slice A2 l2.length c2, .int .i64 e2] 24) (by
    intro r hr
    simp only [List.mem_cons, List.not_mem_nil, or_false] at hr
    rcases hr with rfl | rfl
    · exact (h1.bel g).bel ((Bel.refl _).alloc _)
    · exact (h2.bel g).bel ((Bel.refl _).alloc _)
    )
set_option maxRecDepth 100000 in
set_option maxHeartbeats 8000000 in
theorem no_calls (n0 : Bool) (A0 : Option Addr) (c0 : Nat) (l0 : List Int) (e0 : Int) (n1 : Bool) (A1 : Option Addr) (c1 : Nat) (l1 : List Int) (e1 : Int) (n2 : Bool) (A2 : Option Addr) (c2 : Nat) (l2 : List Int) (e2 : Int) (a3 : Int) (a4 : Bool) (a5 : Int) (w : World) (T : Tab w) (h0 : Rd w A0 l0) (k0 : l0.length ≤ c0) (h1 : Rd w A1 l1) (k1 : l1.length ≤ c1) (h2 : Rd w A2 l2) (k2 : l2.length ≤ c2) (hl : l0.length ≤ 400)  (hg : (([⟨n1, A1, c1, l1, e1⟩, ⟨n2, A2, c2, l2, e2⟩] : List F2.DRow).all F2.goodB) = false) :
    Calls Tryd.prog 3 #[.agg #[.bool n0, .slice A0 l0.length c0, .int .i64 e0], .agg #[.bool n1, .slice A1 l1.length c1, .int .i64 e1], .agg #[.bool n2, .slice A2 l2.length c2, .int .i64 e2], .int .u8 a3, .bool a4, .int .i64 a5] w (Tells w (.bool true)) := by
  have TT := Ho.mk T
  have HG := Ho.mk (tells_good n1 c1 e1 n2 c2 e2 h1 h2)
  rw [hg] at HG
  clear hg
  obtain ⟨rb, hrb⟩ : ∃ rb, rightB n0 l0 e0 = rb := ⟨_, rfl⟩
  have RA := Ho.mk (fun (W : World) (g : Bel w W) => F0.dRightRow (c := c0) n0 l0 e0 (h0.bel g) hrb)
  have RB := Ho.mk (fun (W : World) (g : Bel w W) => F6.rRightRow (c := c0) n0 l0 e0 (h0.bel g) hrb)
  have hd : decide (400 < (l0.length : Int)) = false := decide_eq_false (by omega)
  clear hrb hl
  clear T
  go_enter Tryd.func3, Tryd.ntmps3
  go_wp2_with fail
  have KB0 := Ho.mk (((Blk.new w [.bool n0, .slice A0 l0.length c0, .int .i64 e0] 24).old (.cells #[.bool n1, .slice A1 l1.length c1, .int .i64 e1] 24)).old (.cells #[.bool n2, .slice A2 l2.length c2, .int .i64 e2] 24))
  have KB1 := Ho.mk ((Blk.new (w.alloc (.cells #[.bool n0, .slice A0 l0.length c0, .int .i64 e0] 24)) [.bool n1, .slice A1 l1.length c1, .int .i64 e1] 24).old (.cells #[.bool n2, .slice A2 l2.length c2, .int .i64 e2] 24))
  have KB2 := Ho.mk (Blk.new ((w.alloc (.cells #[.bool n0, .slice A0 l0.length c0, .int .i64 e0] 24)).alloc (.cells #[.bool n1, .slice A1 l1.length c1, .int .i64 e1] 24)) [.bool n2, .slice A2 l2.length c2, .int .i64 e2] 24)
  have g0 := (((Bel.refl w).alloc (.cells #[.bool n0, .slice A0 l0.length c0, .int .i64 e0] 24)).alloc (.cells #[.bool n1, .slice A1 l1.length c1, .int .i64 e1] 24)).alloc (.cells #[.bool n2, .slice A2 l2.length c2, .int .i64 e2] 24)
  rw [World.size_alloc] at KB1
  rw [World.size_alloc, World.size_alloc] at KB2
  have hZ : (((w.alloc (.cells #[.bool n0, .slice A0 l0.length c0, .int .i64 e0] 24)).alloc (.cells #[.bool n1, .slice A1 l1.length c1, .int .i64 e1] 24)).alloc (.cells #[.bool n2, .slice A2 l2.length c2, .int .i64 e2] 24)) = (((w.alloc (.cells #[.bool n0, .slice A0 l0.length c0, .int .i64 e0] 24)).alloc (.cells #[.bool n1, .slice A1 l1.length c1, .int .i64 e1] 24)).alloc (.cells #[.bool n2, .slice A2 l2.length c2, .int .i64 e2] 24)) := rfl
  generalize (((w.alloc (.cells #[.bool n0, .slice A0 l0.length c0, .int .i64 e0] 24)).alloc (.cells #[.bool n1, .slice A1 l1.length c1, .int .i64 e1] 24)).alloc (.cells #[.bool n2, .slice A2 l2.length c2, .int .i64 e2] 24)) = w0 at *
  clear hZ
  (with_reducible refine (F3.head_calls _ (TT.out.bel g0)).mono ?_); rintro e w1 ⟨rfl, b1⟩
  have K0_1 := Ho.mk (KB0.out.bel b1)
  have y0_0 := K0_1.out.cell (i := 0) rfl
  have y0_1 := K0_1.out.cell (i := 1) rfl
  have y0_2 := K0_1.out.cell (i := 2) rfl
  go_wp2_with fail
  go_region_held3 (fun w' => w'.cell? ⟨w.heap.size, 0, none⟩ = some (.bool n0) ∧ w'.cell? ⟨w.heap.size, 1, none⟩ = some (.slice A0 l0.length c0) ∧ w'.cell? ⟨w.heap.size, 2, none⟩ = some (.int .i64 e0))
    (first
      | go_keep
      | (go_split_ands
         refine ⟨?_, ?_, ?_⟩ <;> (apply Bel.cell (by assumption); assumption))
      | (all_goals (go_split_ands; apply Bel.cell (by assumption); assumption)))
    (first
      | (go_at_call 16; (with_reducible refine (RA.out _ (by first | exact (g0.trans b1).drew | exact (g0.trans b1))).mono ?_); rintro e w2 ⟨rfl, b2⟩)
      | (go_at_call 17; (with_reducible refine (RB.out _ ((g0.trans b1).drew.trans b2)).mono ?_); rintro e w3 ⟨rfl, b3⟩))
  have g3 := (g0.trans b1).drew.trans (b2.trans b3)
  have q3 := (Bel.refl w0).trans (b1.drew.trans (b2.trans b3))
  have K1_3 := Ho.mk (KB1.out.bel q3)
  have y1_0 := K1_3.out.cell (i := 0) rfl
  have y1_1 := K1_3.out.cell (i := 1) rfl
  have y1_2 := K1_3.out.cell (i := 2) rfl
  have K2_3 := Ho.mk (KB2.out.bel q3)
  have y2_0 := K2_3.out.cell (i := 0) rfl
  have y2_1 := K2_3.out.cell (i := 1) rfl
  have y2_2 := K2_3.out.cell (i := 2) rfl
  clear b1 b2 b3 y0_0 y0_1 y0_2
  go_wp2_with fail
  (with_reducible refine (HG.out _ g3).mono ?_); rintro e w4 ⟨rfl, b4⟩
  have HE := Ho.mk ((g3.alloc _).trans b4)
  clear b4
  go_wp2
  go_ret
  exact ⟨rfl, HE.out⟩
set_option maxRecDepth 100000 in
set_option maxHeartbeats 8000000 in
theorem low_calls (n0 : Bool) (A0 : Option Addr) (c0 : Nat) (l0 : List Int) (e0 : Int) (n1 : Bool) (A1 : Option Addr) (c1 : Nat) (l1 : List Int) (e1 : Int) (n2 : Bool) (A2 : Option Addr) (c2 : Nat) (l2 : List Int) (e2 : Int) (a3 : Int) (a4 : Bool) (a5 : Int) (w : World) (T : Tab w) (h0 : Rd w A0 l0) (k0 : l0.length ≤ c0) (h1 : Rd w A1 l1) (k1 : l1.length ≤ c1) (h2 : Rd w A2 l2) (k2 : l2.length ≤ c2) (hl : l0.length ≤ 400) (hk : a5 < -500) (hg : (([⟨n1, A1, c1, l1, e1⟩, ⟨n2, A2, c2, l2, e2⟩] : List F2.DRow).all F2.goodB) = true) :
    Calls Tryd.prog 3 #[.agg #[.bool n0, .slice A0 l0.length c0, .int .i64 e0], .agg #[.bool n1, .slice A1 l1.length c1, .int .i64 e1], .agg #[.bool n2, .slice A2 l2.length c2, .int .i64 e2], .int .u8 a3, .bool a4, .int .i64 a5] w (Tells w (.bool true)) := by
  have TT := Ho.mk T
  have HG := Ho.mk (tells_good n1 c1 e1 n2 c2 e2 h1 h2)
  rw [hg] at HG
  clear hg
  obtain ⟨rb, hrb⟩ : ∃ rb, rightB n0 l0 e0 = rb := ⟨_, rfl⟩
  have RA := Ho.mk (fun (W : World) (g : Bel w W) => F0.dRightRow (c := c0) n0 l0 e0 (h0.bel g) hrb)
  have RB := Ho.mk (fun (W : World) (g : Bel w W) => F6.rRightRow (c := c0) n0 l0 e0 (h0.bel g) hrb)
  have hd : decide (400 < (l0.length : Int)) = false := decide_eq_false (by omega)
  clear hrb hl
  have hka : decide (a5 < -500) = true := decide_eq_true hk
  clear T
  go_enter Tryd.func3, Tryd.ntmps3
  go_wp2_with fail
  have KB0 := Ho.mk (((Blk.new w [.bool n0, .slice A0 l0.length c0, .int .i64 e0] 24).old (.cells #[.bool n1, .slice A1 l1.length c1, .int .i64 e1] 24)).old (.cells #[.bool n2, .slice A2 l2.length c2, .int .i64 e2] 24))
  have KB1 := Ho.mk ((Blk.new (w.alloc (.cells #[.bool n0, .slice A0 l0.length c0, .int .i64 e0] 24)) [.bool n1, .slice A1 l1.length c1, .int .i64 e1] 24).old (.cells #[.bool n2, .slice A2 l2.length c2, .int .i64 e2] 24))
  have KB2 := Ho.mk (Blk.new ((w.alloc (.cells #[.bool n0, .slice A0 l0.length c0, .int .i64 e0] 24)).alloc (.cells #[.bool n1, .slice A1 l1.length c1, .int .i64 e1] 24)) [.bool n2, .slice A2 l2.length c2, .int .i64 e2] 24)
  have g0 := (((Bel.refl w).alloc (.cells #[.bool n0, .slice A0 l0.length c0, .int .i64 e0] 24)).alloc (.cells #[.bool n1, .slice A1 l1.length c1, .int .i64 e1] 24)).alloc (.cells #[.bool n2, .slice A2 l2.length c2, .int .i64 e2] 24)
  rw [World.size_alloc] at KB1
  rw [World.size_alloc, World.size_alloc] at KB2
  have hZ : (((w.alloc (.cells #[.bool n0, .slice A0 l0.length c0, .int .i64 e0] 24)).alloc (.cells #[.bool n1, .slice A1 l1.length c1, .int .i64 e1] 24)).alloc (.cells #[.bool n2, .slice A2 l2.length c2, .int .i64 e2] 24)) = (((w.alloc (.cells #[.bool n0, .slice A0 l0.length c0, .int .i64 e0] 24)).alloc (.cells #[.bool n1, .slice A1 l1.length c1, .int .i64 e1] 24)).alloc (.cells #[.bool n2, .slice A2 l2.length c2, .int .i64 e2] 24)) := rfl
  generalize (((w.alloc (.cells #[.bool n0, .slice A0 l0.length c0, .int .i64 e0] 24)).alloc (.cells #[.bool n1, .slice A1 l1.length c1, .int .i64 e1] 24)).alloc (.cells #[.bool n2, .slice A2 l2.length c2, .int .i64 e2] 24)) = w0 at *
  clear hZ
  (with_reducible refine (F3.head_calls _ (TT.out.bel g0)).mono ?_); rintro e w1 ⟨rfl, b1⟩
  have K0_1 := Ho.mk (KB0.out.bel b1)
  have y0_0 := K0_1.out.cell (i := 0) rfl
  have y0_1 := K0_1.out.cell (i := 1) rfl
  have y0_2 := K0_1.out.cell (i := 2) rfl
  go_wp2_with fail
  go_region_held3 (fun w' => w'.cell? ⟨w.heap.size, 0, none⟩ = some (.bool n0) ∧ w'.cell? ⟨w.heap.size, 1, none⟩ = some (.slice A0 l0.length c0) ∧ w'.cell? ⟨w.heap.size, 2, none⟩ = some (.int .i64 e0))
    (first
      | go_keep
      | (go_split_ands
         refine ⟨?_, ?_, ?_⟩ <;> (apply Bel.cell (by assumption); assumption))
      | (all_goals (go_split_ands; apply Bel.cell (by assumption); assumption)))
    (first
      | (go_at_call 16; (with_reducible refine (RA.out _ (by first | exact (g0.trans b1).drew | exact (g0.trans b1))).mono ?_); rintro e w2 ⟨rfl, b2⟩)
      | (go_at_call 17; (with_reducible refine (RB.out _ ((g0.trans b1).drew.trans b2)).mono ?_); rintro e w3 ⟨rfl, b3⟩))
  have g3 := (g0.trans b1).drew.trans (b2.trans b3)
  have q3 := (Bel.refl w0).trans (b1.drew.trans (b2.trans b3))
  have K1_3 := Ho.mk (KB1.out.bel q3)
  have y1_0 := K1_3.out.cell (i := 0) rfl
  have y1_1 := K1_3.out.cell (i := 1) rfl
  have y1_2 := K1_3.out.cell (i := 2) rfl
  have K2_3 := Ho.mk (KB2.out.bel q3)
  have y2_0 := K2_3.out.cell (i := 0) rfl
  have y2_1 := K2_3.out.cell (i := 1) rfl
  have y2_2 := K2_3.out.cell (i := 2) rfl
  clear b1 b2 b3 y0_0 y0_1 y0_2
  go_wp2_with fail
  (with_reducible refine (HG.out _ g3).mono ?_); rintro e w4 ⟨rfl, b4⟩
  have HE := Ho.mk ((g3.alloc _).trans b4)
  clear b4
  go_wp2
  go_ret
  exact ⟨rfl, HE.out⟩
set_option maxRecDepth 100000 in
set_option maxHeartbeats 8000000 in
theorem high_calls (n0 : Bool) (A0 : Option Addr) (c0 : Nat) (l0 : List Int) (e0 : Int) (n1 : Bool) (A1 : Option Addr) (c1 : Nat) (l1 : List Int) (e1 : Int) (n2 : Bool) (A2 : Option Addr) (c2 : Nat) (l2 : List Int) (e2 : Int) (a3 : Int) (a4 : Bool) (a5 : Int) (w : World) (T : Tab w) (h0 : Rd w A0 l0) (k0 : l0.length ≤ c0) (h1 : Rd w A1 l1) (k1 : l1.length ≤ c1) (h2 : Rd w A2 l2) (k2 : l2.length ≤ c2) (hl : l0.length ≤ 400) (hk : 500 < a5) (hg : (([⟨n1, A1, c1, l1, e1⟩, ⟨n2, A2, c2, l2, e2⟩] : List F2.DRow).all F2.goodB) = true) :
    Calls Tryd.prog 3 #[.agg #[.bool n0, .slice A0 l0.length c0, .int .i64 e0], .agg #[.bool n1, .slice A1 l1.length c1, .int .i64 e1], .agg #[.bool n2, .slice A2 l2.length c2, .int .i64 e2], .int .u8 a3, .bool a4, .int .i64 a5] w (Tells w (.bool true)) := by
  have TT := Ho.mk T
  have HG := Ho.mk (tells_good n1 c1 e1 n2 c2 e2 h1 h2)
  rw [hg] at HG
  clear hg
  obtain ⟨rb, hrb⟩ : ∃ rb, rightB n0 l0 e0 = rb := ⟨_, rfl⟩
  have RA := Ho.mk (fun (W : World) (g : Bel w W) => F0.dRightRow (c := c0) n0 l0 e0 (h0.bel g) hrb)
  have RB := Ho.mk (fun (W : World) (g : Bel w W) => F6.rRightRow (c := c0) n0 l0 e0 (h0.bel g) hrb)
  have hd : decide (400 < (l0.length : Int)) = false := decide_eq_false (by omega)
  clear hrb hl
  have hka : decide (a5 < -500) = false := decide_eq_false (by omega)
  have hkb : decide (500 < a5) = true := decide_eq_true hk
  clear T
  go_enter Tryd.func3, Tryd.ntmps3
  go_wp2_with fail
  have KB0 := Ho.mk (((Blk.new w [.bool n0, .slice A0 l0.length c0, .int .i64 e0] 24).old (.cells #[.bool n1, .slice A1 l1.length c1, .int .i64 e1] 24)).old (.cells #[.bool n2, .slice A2 l2.length c2, .int .i64 e2] 24))
  have KB1 := Ho.mk ((Blk.new (w.alloc (.cells #[.bool n0, .slice A0 l0.length c0, .int .i64 e0] 24)) [.bool n1, .slice A1 l1.length c1, .int .i64 e1] 24).old (.cells #[.bool n2, .slice A2 l2.length c2, .int .i64 e2] 24))
  have KB2 := Ho.mk (Blk.new ((w.alloc (.cells #[.bool n0, .slice A0 l0.length c0, .int .i64 e0] 24)).alloc (.cells #[.bool n1, .slice A1 l1.length c1, .int .i64 e1] 24)) [.bool n2, .slice A2 l2.length c2, .int .i64 e2] 24)
  have g0 := (((Bel.refl w).alloc (.cells #[.bool n0, .slice A0 l0.length c0, .int .i64 e0] 24)).alloc (.cells #[.bool n1, .slice A1 l1.length c1, .int .i64 e1] 24)).alloc (.cells #[.bool n2, .slice A2 l2.length c2, .int .i64 e2] 24)
  rw [World.size_alloc] at KB1
  rw [World.size_alloc, World.size_alloc] at KB2
  have hZ : (((w.alloc (.cells #[.bool n0, .slice A0 l0.length c0, .int .i64 e0] 24)).alloc (.cells #[.bool n1, .slice A1 l1.length c1, .int .i64 e1] 24)).alloc (.cells #[.bool n2, .slice A2 l2.length c2, .int .i64 e2] 24)) = (((w.alloc (.cells #[.bool n0, .slice A0 l0.length c0, .int .i64 e0] 24)).alloc (.cells #[.bool n1, .slice A1 l1.length c1, .int .i64 e1] 24)).alloc (.cells #[.bool n2, .slice A2 l2.length c2, .int .i64 e2] 24)) := rfl
  generalize (((w.alloc (.cells #[.bool n0, .slice A0 l0.length c0, .int .i64 e0] 24)).alloc (.cells #[.bool n1, .slice A1 l1.length c1, .int .i64 e1] 24)).alloc (.cells #[.bool n2, .slice A2 l2.length c2, .int .i64 e2] 24)) = w0 at *
  clear hZ
  (with_reducible refine (F3.head_calls _ (TT.out.bel g0)).mono ?_); rintro e w1 ⟨rfl, b1⟩
  have K0_1 := Ho.mk (KB0.out.bel b1)
  have y0_0 := K0_1.out.cell (i := 0) rfl
  have y0_1 := K0_1.out.cell (i := 1) rfl
  have y0_2 := K0_1.out.cell (i := 2) rfl
  go_wp2_with fail
  go_region_held3 (fun w' => w'.cell? ⟨w.heap.size, 0, none⟩ = some (.bool n0) ∧ w'.cell? ⟨w.heap.size, 1, none⟩ = some (.slice A0 l0.length c0) ∧ w'.cell? ⟨w.heap.size, 2, none⟩ = some (.int .i64 e0))
    (first
      | go_keep
      | (go_split_ands
         refine ⟨?_, ?_, ?_⟩ <;> (apply Bel.cell (by assumption); assumption))
      | (all_goals (go_split_ands; apply Bel.cell (by assumption); assumption)))
    (first
      | (go_at_call 16; (with_reducible refine (RA.out _ (by first | exact (g0.trans b1).drew | exact (g0.trans b1))).mono ?_); rintro e w2 ⟨rfl, b2⟩)
      | (go_at_call 17; (with_reducible refine (RB.out _ ((g0.trans b1).drew.trans b2)).mono ?_); rintro e w3 ⟨rfl, b3⟩))
  have g3 := (g0.trans b1).drew.trans (b2.trans b3)
  have q3 := (Bel.refl w0).trans (b1.drew.trans (b2.trans b3))
  have K1_3 := Ho.mk (KB1.out.bel q3)
  have y1_0 := K1_3.out.cell (i := 0) rfl
  have y1_1 := K1_3.out.cell (i := 1) rfl
  have y1_2 := K1_3.out.cell (i := 2) rfl
  have K2_3 := Ho.mk (KB2.out.bel q3)
  have y2_0 := K2_3.out.cell (i := 0) rfl
  have y2_1 := K2_3.out.cell (i := 1) rfl
  have y2_2 := K2_3.out.cell (i := 2) rfl
  clear b1 b2 b3 y0_0 y0_1 y0_2
  go_wp2_with fail
  (with_reducible refine (HG.out _ g3).mono ?_); rintro e w4 ⟨rfl, b4⟩
  have HE := Ho.mk ((g3.alloc _).trans b4)
  clear b4
  go_wp2
  go_ret
  exact ⟨rfl, HE.out⟩
set_option maxRecDepth 100000 in
set_option maxHeartbeats 40000000 in
theorem yes_calls (n0 : Bool) (A0 : Option Addr) (c0 : Nat) (l0 : List Int) (e0 : Int) (n1 : Bool) (A1 : Option Addr) (c1 : Nat) (l1 : List Int) (e1 : Int) (n2 : Bool) (A2 : Option Addr) (c2 : Nat) (l2 : List Int) (e2 : Int) (a3 : Int) (a4 : Bool) (a5 : Int) (w : World) (T : Tab w) (h0 : Rd w A0 l0) (k0 : l0.length ≤ c0) (h1 : Rd w A1 l1) (k1 : l1.length ≤ c1) (h2 : Rd w A2 l2) (k2 : l2.length ≤ c2) (hl : l0.length ≤ 400) (hk0 : -500 ≤ a5) (hk1 : a5 ≤ 500) (hn0 : 0 ≤ a3) (hn1 : a3 ≤ 255) (hg : (([⟨n1, A1, c1, l1, e1⟩, ⟨n2, A2, c2, l2, e2⟩] : List F2.DRow).all F2.goodB) = true) :
    Calls Tryd.prog 3 #[.agg #[.bool n0, .slice A0 l0.length c0, .int .i64 e0], .agg #[.bool n1, .slice A1 l1.length c1, .int .i64 e1], .agg #[.bool n2, .slice A2 l2.length c2, .int .i64 e2], .int .u8 a3, .bool a4, .int .i64 a5] w (Tells w (.bool true)) := by
  have TT := Ho.mk T
  have HG := Ho.mk (tells_good n1 c1 e1 n2 c2 e2 h1 h2)
  rw [hg] at HG
  simp only [List.all_cons, List.all_nil, Bool.and_true, Bool.and_eq_true] at hg
  obtain ⟨q1, q2⟩ := hg
  obtain ⟨v1, ea, eb, ec, len1, wd1⟩ := F2.good_num q1
  dsimp only at ea eb ec
  subst ea eb ec
  have p1 : Dv w A1 c1 v1 200 392 := ⟨k1, h1, wd1⟩
  clear q1
  obtain ⟨v2, ea, eb, ec, len2, wd2⟩ := F2.good_num q2
  dsimp only at ea eb ec
  subst ea eb ec
  have p2 : Dv w A2 c2 v2 200 392 := ⟨k2, h2, wd2⟩
  clear q2
  obtain ⟨rb, hrb⟩ : ∃ rb, rightB n0 l0 e0 = rb := ⟨_, rfl⟩
  have hd : decide (400 < (l0.length : Int)) = false := decide_eq_false (by omega)
  have hka : decide (a5 < -500) = false := decide_eq_false (by omega)
  have hkb : decide (500 < a5) = false := decide_eq_false (by omega)
  obtain ⟨kn, hkn⟩ := Int.eq_ofNat_of_zero_le (show 0 ≤ a3 % 40 + 1 by omega)
  have hkn1 : kn ≤ 40 := by omega
  clear T h1 h2 k1 k2 hl
  have HRB := Ho.mk hrb
  clear hrb
  go_enter Tryd.func3, Tryd.ntmps3
  go_wp2_with fail
  have KB0 := Ho.mk (((Blk.new w [.bool n0, .slice A0 l0.length c0, .int .i64 e0] 24).old (.cells #[.bool (dneg v1), .slice A1 (digs (dm v1)).length c1, .int .i64 (de v1)] 24)).old (.cells #[.bool (dneg v2), .slice A2 (digs (dm v2)).length c2, .int .i64 (de v2)] 24))
  have KB1 := Ho.mk ((Blk.new (w.alloc (.cells #[.bool n0, .slice A0 l0.length c0, .int .i64 e0] 24)) [.bool (dneg v1), .slice A1 (digs (dm v1)).length c1, .int .i64 (de v1)] 24).old (.cells #[.bool (dneg v2), .slice A2 (digs (dm v2)).length c2, .int .i64 (de v2)] 24))
  have KB2 := Ho.mk (Blk.new ((w.alloc (.cells #[.bool n0, .slice A0 l0.length c0, .int .i64 e0] 24)).alloc (.cells #[.bool (dneg v1), .slice A1 (digs (dm v1)).length c1, .int .i64 (de v1)] 24)) [.bool (dneg v2), .slice A2 (digs (dm v2)).length c2, .int .i64 (de v2)] 24)
  have g0 := (((Bel.refl w).alloc (.cells #[.bool n0, .slice A0 l0.length c0, .int .i64 e0] 24)).alloc (.cells #[.bool (dneg v1), .slice A1 (digs (dm v1)).length c1, .int .i64 (de v1)] 24)).alloc (.cells #[.bool (dneg v2), .slice A2 (digs (dm v2)).length c2, .int .i64 (de v2)] 24)
  rw [World.size_alloc] at KB1
  rw [World.size_alloc, World.size_alloc] at KB2
  have hZ : (((w.alloc (.cells #[.bool n0, .slice A0 l0.length c0, .int .i64 e0] 24)).alloc (.cells #[.bool (dneg v1), .slice A1 (digs (dm v1)).length c1, .int .i64 (de v1)] 24)).alloc (.cells #[.bool (dneg v2), .slice A2 (digs (dm v2)).length c2, .int .i64 (de v2)] 24)) = (((w.alloc (.cells #[.bool n0, .slice A0 l0.length c0, .int .i64 e0] 24)).alloc (.cells #[.bool (dneg v1), .slice A1 (digs (dm v1)).length c1, .int .i64 (de v1)] 24)).alloc (.cells #[.bool (dneg v2), .slice A2 (digs (dm v2)).length c2, .int .i64 (de v2)] 24)) := rfl
  generalize (((w.alloc (.cells #[.bool n0, .slice A0 l0.length c0, .int .i64 e0] 24)).alloc (.cells #[.bool (dneg v1), .slice A1 (digs (dm v1)).length c1, .int .i64 (de v1)] 24)).alloc (.cells #[.bool (dneg v2), .slice A2 (digs (dm v2)).length c2, .int .i64 (de v2)] 24)) = w0 at *
  clear hZ
  (with_reducible refine (F3.head_calls _ (TT.out.bel (g0.trans (Bel.refl _)))).mono ?_); rintro e w1 ⟨rfl, b1⟩
  go_wp2_with fail
  have KB0_r2 := Ho.mk ((KB0.out.bel ((Bel.refl _).trans b1)))
  have yB0_r2_0 := KB0_r2.out.cell (i := 0) rfl
  have yB0_r2_1 := KB0_r2.out.cell (i := 1) rfl
  have yB0_r2_2 := KB0_r2.out.cell (i := 2) rfl
  go_region_held3 (fun w' => w'.cell? ⟨w.heap.size, 0, none⟩ = some (.bool n0) ∧ w'.cell? ⟨w.heap.size, 1, none⟩ = some (.slice A0 l0.length c0) ∧ w'.cell? ⟨w.heap.size, 2, none⟩ = some (.int .i64 e0))
    (first
      | go_keep
      | (go_split_ands
         refine ⟨?_, ?_, ?_⟩ <;> (apply Bel.cell (by assumption); assumption))
      | (all_goals (go_split_ands; apply Bel.cell (by assumption); assumption)))
    (first
      | (go_at_call 16; (with_reducible refine (F0.dRightRow n0 l0 e0 ((h0.bel g0).bel (((Bel.refl _).trans b1).drew)) HRB.out).mono ?_); rintro e w2 ⟨rfl, b2⟩)
      | (go_at_call 17; (with_reducible refine (F6.rRightRow n0 l0 e0 ((h0.bel g0).bel ((((Bel.refl _).trans b1).drew).trans b2)) HRB.out).mono ?_); rintro e w3 ⟨rfl, b3⟩))
  have KB1_3 := Ho.mk ((KB1.out.bel (((((Bel.refl _).trans b1).drew).trans b2).trans b3)))
  have yB1_3_0 := KB1_3.out.cell (i := 0) rfl
  have yB1_3_1 := KB1_3.out.cell (i := 1) rfl
  have yB1_3_2 := KB1_3.out.cell (i := 2) rfl
  have KB2_3 := Ho.mk ((KB2.out.bel (((((Bel.refl _).trans b1).drew).trans b2).trans b3)))
  have yB2_3_0 := KB2_3.out.cell (i := 0) rfl
  have yB2_3_1 := KB2_3.out.cell (i := 1) rfl
  have yB2_3_2 := KB2_3.out.cell (i := 2) rfl
  go_wp2_with fail
  (with_reducible refine ((HG.out _ (g0.trans (((((Bel.refl _).trans b1).drew).trans b2).trans b3)))).mono ?_); rintro e w4 ⟨rfl, b4⟩
  clear yB1_3_0 yB1_3_1 yB1_3_2 yB2_3_0 yB2_3_1 yB2_3_2
  go_wp2_with fail
  have KB1_r7 := Ho.mk ((KB1_3.out.bel (((Bel.refl _).alloc (.cells #[.bool (dneg v1), .slice A1 (digs (dm v1)).length c1, .int .i64 (de v1), .bool (dneg v2), .slice A2 (digs (dm v2)).length c2, .int .i64 (de v2)] 24)).trans b4)))
  have yB1_r7_0 := KB1_r7.out.cell (i := 0) rfl
  have yB1_r7_1 := KB1_r7.out.cell (i := 1) rfl
  have yB1_r7_2 := KB1_r7.out.cell (i := 2) rfl
  have KB2_r7 := Ho.mk ((KB2_3.out.bel (((Bel.refl _).alloc (.cells #[.bool (dneg v1), .slice A1 (digs (dm v1)).length c1, .int .i64 (de v1), .bool (dneg v2), .slice A2 (digs (dm v2)).length c2, .int .i64 (de v2)] 24)).trans b4)))
  have yB2_r7_0 := KB2_r7.out.cell (i := 0) rfl
  have yB2_r7_1 := KB2_r7.out.cell (i := 1) rfl
  have yB2_r7_2 := KB2_r7.out.cell (i := 2) rfl
  simp only [List.append_eq, List.cons_append, List.nil_append]
  go_region_held3 (fun w' => w'.cell? ⟨w.heap.size + 1, 0, none⟩ = some (.bool (dneg v1)) ∧ w'.cell? ⟨w.heap.size + 1, 1, none⟩ = some (.slice A1 (digs (dm v1)).length c1) ∧ w'.cell? ⟨w.heap.size + 1, 2, none⟩ = some (.int .i64 (de v1)) ∧ w'.cell? ⟨w.heap.size + 1 + 1, 0, none⟩ = some (.bool (dneg v2)) ∧ w'.cell? ⟨w.heap.size + 1 + 1, 1, none⟩ = some (.slice A2 (digs (dm v2)).length c2) ∧ w'.cell? ⟨w.heap.size + 1 + 1, 2, none⟩ = some (.int .i64 (de v2)))
    (first
      | go_keep
      | (go_split_ands
         refine ⟨?_, ?_, ?_, ?_, ?_, ?_⟩ <;> (apply Bel.cell (by assumption); assumption))
      | (all_goals (go_split_ands; apply Bel.cell (by assumption); assumption)))
    (first
      | (go_at_call 20; (with_reducible refine (F1.dAdd (TT.out.bel (g0.trans ((((((((Bel.refl _).trans b1).drew).trans b2).trans b3).alloc (.cells #[.bool (dneg v1), .slice A1 (digs (dm v1)).length c1, .int .i64 (de v1), .bool (dneg v2), .slice A2 (digs (dm v2)).length c2, .int .i64 (de v2)] 24)).trans b4).drew))) ((p1.bel g0).bel ((((((((Bel.refl _).trans b1).drew).trans b2).trans b3).alloc (.cells #[.bool (dneg v1), .slice A1 (digs (dm v1)).length c1, .int .i64 (de v1), .bool (dneg v2), .slice A2 (digs (dm v2)).length c2, .int .i64 (de v2)] 24)).trans b4).drew)) ((p2.bel g0).bel ((((((((Bel.refl _).trans b1).drew).trans b2).trans b3).alloc (.cells #[.bool (dneg v1), .slice A1 (digs (dm v1)).length c1, .int .i64 (de v1), .bool (dneg v2), .slice A2 (digs (dm v2)).length c2, .int .i64 (de v2)] 24)).trans b4).drew)) (by omega) (by omega)).mono ?_); rintro e w5 ⟨A5, c5, rfl, n5, b5⟩)
      | (go_at_call 21; (with_reducible refine (F1.rAdd ((p1.bel g0).bel (((((((((Bel.refl _).trans b1).drew).trans b2).trans b3).alloc (.cells #[.bool (dneg v1), .slice A1 (digs (dm v1)).length c1, .int .i64 (de v1), .bool (dneg v2), .slice A2 (digs (dm v2)).length c2, .int .i64 (de v2)] 24)).trans b4).drew).trans b5)) ((p2.bel g0).bel (((((((((Bel.refl _).trans b1).drew).trans b2).trans b3).alloc (.cells #[.bool (dneg v1), .slice A1 (digs (dm v1)).length c1, .int .i64 (de v1), .bool (dneg v2), .slice A2 (digs (dm v2)).length c2, .int .i64 (de v2)] 24)).trans b4).drew).trans b5)) (by omega) (by omega)).mono ?_); rintro e w6 ⟨A6, c6, rfl, n6, b6⟩)
      | (go_at_call 19; (with_reducible refine (F1.same (n5.bel ((Bel.refl _).trans b6)) n6 rfl).mono ?_); rintro e w7 ⟨rfl, b7⟩)
      | (go_at_call 22; (with_reducible refine (F1.dMul (TT.out.bel (g0.trans (((((((((((Bel.refl _).trans b1).drew).trans b2).trans b3).alloc (.cells #[.bool (dneg v1), .slice A1 (digs (dm v1)).length c1, .int .i64 (de v1), .bool (dneg v2), .slice A2 (digs (dm v2)).length c2, .int .i64 (de v2)] 24)).trans b4).drew).trans b5).trans b6).trans b7))) ((p1.bel g0).bel (((((((((((Bel.refl _).trans b1).drew).trans b2).trans b3).alloc (.cells #[.bool (dneg v1), .slice A1 (digs (dm v1)).length c1, .int .i64 (de v1), .bool (dneg v2), .slice A2 (digs (dm v2)).length c2, .int .i64 (de v2)] 24)).trans b4).drew).trans b5).trans b6).trans b7)) ((p2.bel g0).bel (((((((((((Bel.refl _).trans b1).drew).trans b2).trans b3).alloc (.cells #[.bool (dneg v1), .slice A1 (digs (dm v1)).length c1, .int .i64 (de v1), .bool (dneg v2), .slice A2 (digs (dm v2)).length c2, .int .i64 (de v2)] 24)).trans b4).drew).trans b5).trans b6).trans b7)) (by omega) (by omega)).mono ?_); rintro e w8 ⟨A8, c8, rfl, n8, b8⟩)
      | (go_at_call 23; (with_reducible refine (F1.rMul ((p1.bel g0).bel ((((((((((((Bel.refl _).trans b1).drew).trans b2).trans b3).alloc (.cells #[.bool (dneg v1), .slice A1 (digs (dm v1)).length c1, .int .i64 (de v1), .bool (dneg v2), .slice A2 (digs (dm v2)).length c2, .int .i64 (de v2)] 24)).trans b4).drew).trans b5).trans b6).trans b7).trans b8)) ((p2.bel g0).bel ((((((((((((Bel.refl _).trans b1).drew).trans b2).trans b3).alloc (.cells #[.bool (dneg v1), .slice A1 (digs (dm v1)).length c1, .int .i64 (de v1), .bool (dneg v2), .slice A2 (digs (dm v2)).length c2, .int .i64 (de v2)] 24)).trans b4).drew).trans b5).trans b6).trans b7).trans b8)) (by omega) (by omega)).mono ?_); rintro e w9 ⟨A9, c9, rfl, n9, b9⟩)
      | (go_at_call 19; (with_reducible refine (F1.same (n8.bel ((Bel.refl _).trans b9)) n9 rfl).mono ?_); rintro e w10 ⟨rfl, b10⟩)
      | (go_at_call 24; (with_reducible refine (F1.dCmp (TT.out.bel (g0.trans ((((((((((((((Bel.refl _).trans b1).drew).trans b2).trans b3).alloc (.cells #[.bool (dneg v1), .slice A1 (digs (dm v1)).length c1, .int .i64 (de v1), .bool (dneg v2), .slice A2 (digs (dm v2)).length c2, .int .i64 (de v2)] 24)).trans b4).drew).trans b5).trans b6).trans b7).trans b8).trans b9).trans b10))) ((p1.bel g0).bel ((((((((((((((Bel.refl _).trans b1).drew).trans b2).trans b3).alloc (.cells #[.bool (dneg v1), .slice A1 (digs (dm v1)).length c1, .int .i64 (de v1), .bool (dneg v2), .slice A2 (digs (dm v2)).length c2, .int .i64 (de v2)] 24)).trans b4).drew).trans b5).trans b6).trans b7).trans b8).trans b9).trans b10)) ((p2.bel g0).bel ((((((((((((((Bel.refl _).trans b1).drew).trans b2).trans b3).alloc (.cells #[.bool (dneg v1), .slice A1 (digs (dm v1)).length c1, .int .i64 (de v1), .bool (dneg v2), .slice A2 (digs (dm v2)).length c2, .int .i64 (de v2)] 24)).trans b4).drew).trans b5).trans b6).trans b7).trans b8).trans b9).trans b10)) (by omega) (by omega) rfl).mono ?_); rintro e w11 ⟨rfl, b11⟩)
      | (go_at_call 25; (with_reducible refine (F1.rCmp ((p1.bel g0).bel (((((((((((((((Bel.refl _).trans b1).drew).trans b2).trans b3).alloc (.cells #[.bool (dneg v1), .slice A1 (digs (dm v1)).length c1, .int .i64 (de v1), .bool (dneg v2), .slice A2 (digs (dm v2)).length c2, .int .i64 (de v2)] 24)).trans b4).drew).trans b5).trans b6).trans b7).trans b8).trans b9).trans b10).trans b11)) ((p2.bel g0).bel (((((((((((((((Bel.refl _).trans b1).drew).trans b2).trans b3).alloc (.cells #[.bool (dneg v1), .slice A1 (digs (dm v1)).length c1, .int .i64 (de v1), .bool (dneg v2), .slice A2 (digs (dm v2)).length c2, .int .i64 (de v2)] 24)).trans b4).drew).trans b5).trans b6).trans b7).trans b8).trans b9).trans b10).trans b11)) (by omega) (by omega) rfl).mono ?_); rintro e w12 ⟨rfl, b12⟩)
      | (go_at_call 26; (with_reducible refine (F1.dSign ((p1.bel g0).bel ((((((((((((((((Bel.refl _).trans b1).drew).trans b2).trans b3).alloc (.cells #[.bool (dneg v1), .slice A1 (digs (dm v1)).length c1, .int .i64 (de v1), .bool (dneg v2), .slice A2 (digs (dm v2)).length c2, .int .i64 (de v2)] 24)).trans b4).drew).trans b5).trans b6).trans b7).trans b8).trans b9).trans b10).trans b11).trans b12)) rfl).mono ?_); rintro e w13 ⟨rfl, b13⟩)
      | (go_at_call 27; (with_reducible refine (F1.rSign ((p1.bel g0).bel (((((((((((((((((Bel.refl _).trans b1).drew).trans b2).trans b3).alloc (.cells #[.bool (dneg v1), .slice A1 (digs (dm v1)).length c1, .int .i64 (de v1), .bool (dneg v2), .slice A2 (digs (dm v2)).length c2, .int .i64 (de v2)] 24)).trans b4).drew).trans b5).trans b6).trans b7).trans b8).trans b9).trans b10).trans b11).trans b12).trans b13)) rfl).mono ?_); rintro e w14 ⟨rfl, b14⟩)
      | (go_at_call 28; (with_reducible refine (F1.dFlip (TT.out.bel (g0.trans ((((((((((((((((((Bel.refl _).trans b1).drew).trans b2).trans b3).alloc (.cells #[.bool (dneg v1), .slice A1 (digs (dm v1)).length c1, .int .i64 (de v1), .bool (dneg v2), .slice A2 (digs (dm v2)).length c2, .int .i64 (de v2)] 24)).trans b4).drew).trans b5).trans b6).trans b7).trans b8).trans b9).trans b10).trans b11).trans b12).trans b13).trans b14))) ((p1.bel g0).bel ((((((((((((((((((Bel.refl _).trans b1).drew).trans b2).trans b3).alloc (.cells #[.bool (dneg v1), .slice A1 (digs (dm v1)).length c1, .int .i64 (de v1), .bool (dneg v2), .slice A2 (digs (dm v2)).length c2, .int .i64 (de v2)] 24)).trans b4).drew).trans b5).trans b6).trans b7).trans b8).trans b9).trans b10).trans b11).trans b12).trans b13).trans b14)) (by omega)).mono ?_); rintro e w15 ⟨A15, c15, rfl, n15, b15⟩)
      | (go_at_call 29; (with_reducible refine (F1.rFlip ((p1.bel g0).bel (((((((((((((((((((Bel.refl _).trans b1).drew).trans b2).trans b3).alloc (.cells #[.bool (dneg v1), .slice A1 (digs (dm v1)).length c1, .int .i64 (de v1), .bool (dneg v2), .slice A2 (digs (dm v2)).length c2, .int .i64 (de v2)] 24)).trans b4).drew).trans b5).trans b6).trans b7).trans b8).trans b9).trans b10).trans b11).trans b12).trans b13).trans b14).trans b15))).mono ?_); rintro e w16 ⟨A16, c16, rfl, n16, b16⟩)
      | (go_at_call 19; (with_reducible refine (F1.same (n15.bel ((Bel.refl _).trans b16)) n16 rfl).mono ?_); rintro e w17 ⟨rfl, b17⟩)
      | (go_at_call 30; (with_reducible refine (F1.dShift (TT.out.bel (g0.trans (((((((((((((((((((((Bel.refl _).trans b1).drew).trans b2).trans b3).alloc (.cells #[.bool (dneg v1), .slice A1 (digs (dm v1)).length c1, .int .i64 (de v1), .bool (dneg v2), .slice A2 (digs (dm v2)).length c2, .int .i64 (de v2)] 24)).trans b4).drew).trans b5).trans b6).trans b7).trans b8).trans b9).trans b10).trans b11).trans b12).trans b13).trans b14).trans b15).trans b16).trans b17))) ((p1.bel g0).bel (((((((((((((((((((((Bel.refl _).trans b1).drew).trans b2).trans b3).alloc (.cells #[.bool (dneg v1), .slice A1 (digs (dm v1)).length c1, .int .i64 (de v1), .bool (dneg v2), .slice A2 (digs (dm v2)).length c2, .int .i64 (de v2)] 24)).trans b4).drew).trans b5).trans b6).trans b7).trans b8).trans b9).trans b10).trans b11).trans b12).trans b13).trans b14).trans b15).trans b16).trans b17)) a5 500 (by omega) (by omega) (by omega) (by omega)).mono ?_); rintro e w18 ⟨A18, c18, rfl, n18, b18⟩)
      | (go_at_call 31; (with_reducible refine (F1.rShift ((p1.bel g0).bel ((((((((((((((((((((((Bel.refl _).trans b1).drew).trans b2).trans b3).alloc (.cells #[.bool (dneg v1), .slice A1 (digs (dm v1)).length c1, .int .i64 (de v1), .bool (dneg v2), .slice A2 (digs (dm v2)).length c2, .int .i64 (de v2)] 24)).trans b4).drew).trans b5).trans b6).trans b7).trans b8).trans b9).trans b10).trans b11).trans b12).trans b13).trans b14).trans b15).trans b16).trans b17).trans b18)) a5 500 (by omega) (by omega) (by omega) (by omega)).mono ?_); rintro e w19 ⟨A19, c19, rfl, n19, b19⟩)
      | (go_at_call 19; (with_reducible refine (F1.same (n18.bel ((Bel.refl _).trans b19)) n19 rfl).mono ?_); rintro e w20 ⟨rfl, b20⟩)
      | (go_at_call 32; (with_reducible refine (F1.dCut (TT.out.bel (g0.trans ((((((((((((((((((((((((Bel.refl _).trans b1).drew).trans b2).trans b3).alloc (.cells #[.bool (dneg v1), .slice A1 (digs (dm v1)).length c1, .int .i64 (de v1), .bool (dneg v2), .slice A2 (digs (dm v2)).length c2, .int .i64 (de v2)] 24)).trans b4).drew).trans b5).trans b6).trans b7).trans b8).trans b9).trans b10).trans b11).trans b12).trans b13).trans b14).trans b15).trans b16).trans b17).trans b18).trans b19).trans b20))) ((p1.bel g0).bel ((((((((((((((((((((((((Bel.refl _).trans b1).drew).trans b2).trans b3).alloc (.cells #[.bool (dneg v1), .slice A1 (digs (dm v1)).length c1, .int .i64 (de v1), .bool (dneg v2), .slice A2 (digs (dm v2)).length c2, .int .i64 (de v2)] 24)).trans b4).drew).trans b5).trans b6).trans b7).trans b8).trans b9).trans b10).trans b11).trans b12).trans b13).trans b14).trans b15).trans b16).trans b17).trans b18).trans b19).trans b20)) kn a4 (by omega) (by omega) (nn := (kn : Int)) rfl).mono ?_); rintro e w21 ⟨A21, c21, rfl, n21, b21⟩)
      | (go_at_call 33; (with_reducible refine (F1.rCut ((p1.bel g0).bel (((((((((((((((((((((((((Bel.refl _).trans b1).drew).trans b2).trans b3).alloc (.cells #[.bool (dneg v1), .slice A1 (digs (dm v1)).length c1, .int .i64 (de v1), .bool (dneg v2), .slice A2 (digs (dm v2)).length c2, .int .i64 (de v2)] 24)).trans b4).drew).trans b5).trans b6).trans b7).trans b8).trans b9).trans b10).trans b11).trans b12).trans b13).trans b14).trans b15).trans b16).trans b17).trans b18).trans b19).trans b20).trans b21)) kn a4 (by omega) (by omega) (nn := (kn : Int)) rfl).mono ?_); rintro e w22 ⟨A22, c22, rfl, n22, b22⟩)
      | (go_at_call 19; (with_reducible refine (F1.same (n21.bel ((Bel.refl _).trans b22)) n22 rfl).mono ?_); rintro e w23 ⟨rfl, b23⟩)
      | (go_at_call 34; (with_reducible refine (F1.dOf (TT.out.bel (g0.trans (((((((((((((((((((((((((((Bel.refl _).trans b1).drew).trans b2).trans b3).alloc (.cells #[.bool (dneg v1), .slice A1 (digs (dm v1)).length c1, .int .i64 (de v1), .bool (dneg v2), .slice A2 (digs (dm v2)).length c2, .int .i64 (de v2)] 24)).trans b4).drew).trans b5).trans b6).trans b7).trans b8).trans b9).trans b10).trans b11).trans b12).trans b13).trans b14).trans b15).trans b16).trans b17).trans b18).trans b19).trans b20).trans b21).trans b22).trans b23))) a5 (by omega) (by omega)).mono ?_); rintro e w24 ⟨A24, c24, rfl, n24, b24⟩)
      | (go_at_call 35; (with_reducible refine (F1.rOf a5 (by omega) (by omega)).mono ?_); rintro e w25 ⟨A25, c25, rfl, n25, b25⟩)
      | (go_at_call 19; (with_reducible refine (F1.same (n24.bel ((Bel.refl _).trans b25)) n25 rfl).mono ?_); rintro e w26 ⟨rfl, b26⟩)
      | (go_at_call 36; (with_reducible refine (F1.dMake (TT.out.bel (g0.trans ((((((((((((((((((((((((((((((Bel.refl _).trans b1).drew).trans b2).trans b3).alloc (.cells #[.bool (dneg v1), .slice A1 (digs (dm v1)).length c1, .int .i64 (de v1), .bool (dneg v2), .slice A2 (digs (dm v2)).length c2, .int .i64 (de v2)] 24)).trans b4).drew).trans b5).trans b6).trans b7).trans b8).trans b9).trans b10).trans b11).trans b12).trans b13).trans b14).trans b15).trans b16).trans b17).trans b18).trans b19).trans b20).trans b21).trans b22).trans b23).trans b24).trans b25).trans b26))) (((p2.bel g0).nv (by omega)).bel ((((((((((((((((((((((((((((((Bel.refl _).trans b1).drew).trans b2).trans b3).alloc (.cells #[.bool (dneg v1), .slice A1 (digs (dm v1)).length c1, .int .i64 (de v1), .bool (dneg v2), .slice A2 (digs (dm v2)).length c2, .int .i64 (de v2)] 24)).trans b4).drew).trans b5).trans b6).trans b7).trans b8).trans b9).trans b10).trans b11).trans b12).trans b13).trans b14).trans b15).trans b16).trans b17).trans b18).trans b19).trans b20).trans b21).trans b22).trans b23).trans b24).trans b25).trans b26)) a4 a5 (L := 600) (U := 1200) (by omega) (by omega) (by omega) (by omega) (by omega)).mono ?_); rintro e w27 ⟨A27, c27, rfl, n27, b27⟩)
      | (go_at_call 37; (with_reducible refine (F1.rMake (((p2.bel g0).nv (by omega)).bel (((((((((((((((((((((((((((((((Bel.refl _).trans b1).drew).trans b2).trans b3).alloc (.cells #[.bool (dneg v1), .slice A1 (digs (dm v1)).length c1, .int .i64 (de v1), .bool (dneg v2), .slice A2 (digs (dm v2)).length c2, .int .i64 (de v2)] 24)).trans b4).drew).trans b5).trans b6).trans b7).trans b8).trans b9).trans b10).trans b11).trans b12).trans b13).trans b14).trans b15).trans b16).trans b17).trans b18).trans b19).trans b20).trans b21).trans b22).trans b23).trans b24).trans b25).trans b26).trans b27)) a4 a5 (L := 600) (U := 1200) (by omega) (by omega) (by omega) (by omega) (by omega)).mono ?_); rintro e w28 ⟨A28, c28, rfl, n28, b28⟩)
      | (go_at_call 19; (with_reducible refine (F1.same (n27.bel ((Bel.refl _).trans b28)) n28 rfl).mono ?_); rintro e w29 ⟨rfl, b29⟩))
  have HE := Ho.mk (g0.trans (((((((((((((((((((((((((((((((((Bel.refl _).trans b1).drew).trans b2).trans b3).alloc (.cells #[.bool (dneg v1), .slice A1 (digs (dm v1)).length c1, .int .i64 (de v1), .bool (dneg v2), .slice A2 (digs (dm v2)).length c2, .int .i64 (de v2)] 24)).trans b4).drew).trans b5).trans b6).trans b7).trans b8).trans b9).trans b10).trans b11).trans b12).trans b13).trans b14).trans b15).trans b16).trans b17).trans b18).trans b19).trans b20).trans b21).trans b22).trans b23).trans b24).trans b25).trans b26).trans b27).trans b28).trans b29))
  go_wp2
  go_ret
  exact ⟨rfl, HE.out⟩
theorem tells_calls (n0 : Bool) (A0 : Option Addr) (c0 : Nat) (l0 : List Int) (e0 : Int) (n1 : Bool) (A1 : Option Addr) (c1 : Nat) (l1 : List Int) (e1 : Int) (n2 : Bool) (A2 : Option Addr) (c2 : Nat) (l2 : List Int) (e2 : Int) (a3 : Int) (a4 : Bool) (a5 : Int) (w : World) (T : Tab w) (h0 : Rd w A0 l0) (k0 : l0.length ≤ c0) (h1 : Rd w A1 l1) (k1 : l1.length ≤ c1) (h2 : Rd w A2 l2) (k2 : l2.length ≤ c2) (b3 : 0 ≤ a3 ∧ a3 ≤ 255) (b5 : -9223372036854775808 ≤ a5 ∧ a5 ≤ 9223372036854775807) :
    Calls Tryd.prog 3 #[.agg #[.bool n0, .slice A0 l0.length c0, .int .i64 e0], .agg #[.bool n1, .slice A1 l1.length c1, .int .i64 e1], .agg #[.bool n2, .slice A2 l2.length c2, .int .i64 e2], .int .u8 a3, .bool a4, .int .i64 a5] w (Tells w (.bool true)) := by
  rcases Nat.lt_or_ge 400 l0.length with hl | hl
  · exact Fb.long_calls n0 A0 c0 l0 e0 n1 A1 c1 l1 e1 n2 A2 c2 l2 e2 a3 a4 a5 w T h0 k0 h1 k1 h2 k2 hl
  cases hg : (([⟨n1, A1, c1, l1, e1⟩, ⟨n2, A2, c2, l2, e2⟩] : List F2.DRow).all F2.goodB) with
  | false => exact no_calls n0 A0 c0 l0 e0 n1 A1 c1 l1 e1 n2 A2 c2 l2 e2 a3 a4 a5 w T h0 k0 h1 k1 h2 k2 hl hg
  | true =>
    rcases Int.lt_or_le a5 (-500) with hk | hk
    · exact low_calls n0 A0 c0 l0 e0 n1 A1 c1 l1 e1 n2 A2 c2 l2 e2 a3 a4 a5 w T h0 k0 h1 k1 h2 k2 hl hk hg
    rcases Int.lt_or_le 500 a5 with hk' | hk'
    · exact high_calls n0 A0 c0 l0 e0 n1 A1 c1 l1 e1 n2 A2 c2 l2 e2 a3 a4 a5 w T h0 k0 h1 k1 h2 k2 hl hk' hg
    exact yes_calls n0 A0 c0 l0 e0 n1 A1 c1 l1 e1 n2 A2 c2 l2 e2 a3 a4 a5 w T h0 k0 h1 k1 h2 k2 hl hk hk' b3.1 b3.2 hg
end Go.Proofs.YtnmjnjhijcnbcaaDoor.Fa
