/-
  The walk of the document's answer to layer 2: Cmp.
-/
import Derived.Test.YtnmjnjhijcnbcaaDoorD7
import Derived.Deep.RegionHeld3
set_option linter.unusedVariables false
set_option linter.unusedSimpArgs false
namespace Go.Proofs.YtnmjnjhijcnbcaaDoor.D8
open Go Go.RowKit Go.Proofs.YtnmjnjhijcnbcaaDoor Go.Proofs.YtnmjnjhijcnbcaaDoor.Ow Go.Proofs.YtnmjnjhijcnbcaaDoor.Pl Go.Proofs.YtnmjnjhijcnbcaaDoor.Dp Go.Proofs.YtnmjnjhijcnbcaaDoor.D3 Go.Proofs.YtnmjnjhijcnbcaaDoor.D1

theorem flipG_calls (A : Option Addr) (c : Nat) (v : Int) (w : World) (h : Rd w A (digs (dm v))) (hc : (digs (dm v)).length ≤ c) :
    Calls Tryd.prog 29 #[.agg #[.bool (dneg v), .slice A (digs (dm v)).length c, .int .i64 (de v)]] w (Gives w (-v)) :=
  (flip_calls A c v w).mono fun e w' ⟨he, hb⟩ => by
    have hm : dm (-v) = dm v := by unfold dm; rw [Int.natAbs_neg]
    exact ⟨A, c, he, by rw [hm]; exact hc, by rw [hm]; exact h.bel hb, hb⟩
set_option maxRecDepth 100000 in
set_option maxHeartbeats 2000000 in
theorem cmp_calls (A0 A1 : Option Addr) (c0 c1 : Nat) (u v : Int) (w : World) (h0 : Rd w A0 (digs (dm u))) (h1 : Rd w A1 (digs (dm v))) (hc0 : (digs (dm u)).length ≤ c0) (hc1 : (digs (dm v)).length ≤ c1)
    (hl0 : (digs (dm u)).length ≤ 1000) (hl1 : (digs (dm v)).length ≤ 1000) (b0 : -20000 ≤ de u) (b1 : de u ≤ 20000) (b2 : -20000 ≤ de v) (b3 : de v ≤ 20000) :
    Calls Tryd.prog 25 #[.agg #[.bool (dneg u), .slice A0 (digs (dm u)).length c0, .int .i64 (de u)], .agg #[.bool (dneg v), .slice A1 (digs (dm v)).length c1, .int .i64 (de v)]] w fun e w' => e = .returned (.int .i64 (cmpI u v)) ∧ Bel w w' := by
  have hm : dm (-v) = dm v := by unfold dm; rw [Int.natAbs_neg]
  have he : de (-v) = de v := by
    by_cases q : v = 0
    · subst q; rfl
    · exact (D1.flip_parts q).2.2
  have SF := Ho.mk (fun (W : World) (g : Bel w W) => flipG_calls A1 c1 v W (h1.bel g) hc1)
  have SA := Ho.mk (fun (A : Option Addr) (c : Nat) (W : World) (g : Bel w W) (hr : Rd W A (digs (dm (-v)))) (hc : (digs (dm (-v))).length ≤ c) => D7.add_calls A0 A c0 c u (-v) W (h0.bel g) hr hc0 hc hl0 (by rw [hm]; exact hl1) b0 b1 (by rw [he]; exact b2) (by rw [he]; exact b3))
  have SS := Ho.mk (fun (A : Option Addr) (c : Nat) (W : World) => sign_calls A c (u + -v) W)
  rw [sgn_sub] at SS
  clear hm he h0 h1 hc0 hc1 hl0 hl1 b0 b1 b2 b3
  generalize cmpI u v = r at *
  generalize u + -v = s at *
  generalize -v = v' at *
  generalize dneg u = n0 at *
  generalize dneg v = n1 at *
  generalize digs (dm u) = l0 at *
  generalize digs (dm v) = l1 at *
  generalize de u = e0 at *
  generalize de v = e1 at *
  have HB := Ho.mk (((Bel.refl w).alloc (.cells #[.bool n0, .slice A0 l0.length c0, .int .i64 e0] 24)).alloc (.cells #[.bool n1, .slice A1 l1.length c1, .int .i64 e1] 24))
  have KA := Ho.mk ((Blk.new w [.bool n0, .slice A0 l0.length c0, .int .i64 e0] 24).old (.cells #[.bool n1, .slice A1 l1.length c1, .int .i64 e1] 24))
  have KC := Ho.mk (Blk.new (w.alloc (.cells #[.bool n0, .slice A0 l0.length c0, .int .i64 e0] 24)) [.bool n1, .slice A1 l1.length c1, .int .i64 e1] 24)
  rw [World.size_alloc] at KC
  go_enter Tryd.func25, Tryd.ntmps25
  go_wp2_with fail
  have hZ : ((w.alloc (.cells #[.bool n0, .slice A0 l0.length c0, .int .i64 e0] 24)).alloc (.cells #[.bool n1, .slice A1 l1.length c1, .int .i64 e1] 24)) = ((w.alloc (.cells #[.bool n0, .slice A0 l0.length c0, .int .i64 e0] 24)).alloc (.cells #[.bool n1, .slice A1 l1.length c1, .int .i64 e1] 24)) := rfl
  generalize ((w.alloc (.cells #[.bool n0, .slice A0 l0.length c0, .int .i64 e0] 24)).alloc (.cells #[.bool n1, .slice A1 l1.length c1, .int .i64 e1] 24)) = w0 at *
  clear hZ
  have y0a := KA.out.cell (i := 0) rfl
  have y1a := KA.out.cell (i := 1) rfl
  have y2a := KA.out.cell (i := 2) rfl
  have y0b := KC.out.cell (i := 0) rfl
  have y1b := KC.out.cell (i := 1) rfl
  have y2b := KC.out.cell (i := 2) rfl
  go_region_held3 (fun w' => w'.cell? ⟨w.heap.size, 0, none⟩ = some (.bool n0) ∧ w'.cell? ⟨w.heap.size, 1, none⟩ = some (.slice A0 l0.length c0) ∧ w'.cell? ⟨w.heap.size, 2, none⟩ = some (.int .i64 e0) ∧
      w'.cell? ⟨w.heap.size + 1, 0, none⟩ = some (.bool n1) ∧ w'.cell? ⟨w.heap.size + 1, 1, none⟩ = some (.slice A1 l1.length c1) ∧ w'.cell? ⟨w.heap.size + 1, 2, none⟩ = some (.int .i64 e1))
    (first
      | go_keep
      | (go_split_ands
         refine ⟨?_, ?_, ?_, ?_, ?_, ?_⟩ <;> (apply Bel.cell (by assumption); assumption))
      | (all_goals (go_split_ands; apply Bel.cell (by assumption); assumption)))
    (first
      | (go_at_call 29; (with_reducible refine (SF.out _ HB.out.drew).mono ?_); rintro e w1 ⟨A3, c3, rfl, hc3, hr3, hb3⟩)
      | (go_at_call 21; (with_reducible refine (SA.out _ _ _ (HB.out.drew.trans hb3) hr3 hc3).mono ?_); rintro e w2 ⟨A4, c4, rfl, hc4, hr4, hb4⟩)
      | (go_at_call 27; (with_reducible refine (SS.out _ _ _).mono ?_); rintro e w3 ⟨rfl, hb5⟩))
  have HB5 := Ho.mk (HB.out.drew.trans (hb3.trans (hb4.trans hb5)))
  clear hb3 hb4 hb5 hr3 hr4
  go_wp2
  go_ret
  exact ⟨rfl, HB5.out⟩
end Go.Proofs.YtnmjnjhijcnbcaaDoor.D8
