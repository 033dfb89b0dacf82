/-
  The walk of package dya: Mul.
-/
import Derived.Test.YtnmjnjhijcnbcaaDoorE2
import Derived.Deep.RegionHeld3
set_option linter.unusedVariables false
set_option linter.unusedSimpArgs false
namespace Go.Proofs.YtnmjnjhijcnbcaaDoor.E3
open Go Go.RowKit Go.Proofs.YtnmjnjhijcnbcaaDoor Go.Proofs.YtnmjnjhijcnbcaaDoor.Ow Go.Proofs.YtnmjnjhijcnbcaaDoor.Pl Go.Proofs.YtnmjnjhijcnbcaaDoor.Dp Go.Proofs.YtnmjnjhijcnbcaaDoor.Dt Go.Proofs.YtnmjnjhijcnbcaaDoor.D3 Go.Proofs.YtnmjnjhijcnbcaaDoor.E1 Go.Proofs.YtnmjnjhijcnbcaaDoor.E2

set_option maxRecDepth 100000 in
set_option maxHeartbeats 2000000 in
theorem mul_calls (A0 A1 : Option Addr) (c0 c1 : Nat) (u v : Int) (w : World) (T : Tab w) (h0 : Rd w A0 (digs (dm u))) (h1 : Rd w A1 (digs (dm v))) (hx : (digs (dm u)).length ≤ 1000) (hy : (digs (dm v)).length ≤ 1000)
    (he0 : -20000 ≤ de u) (he1 : de u ≤ 20000) (hf0 : -20000 ≤ de v) (hf1 : de v ≤ 20000) :
    Calls Tryd.prog 22 #[.agg #[.bool (dneg u), .slice A0 (digs (dm u)).length c0, .int .i64 (de u)], .agg #[.bool (dneg v), .slice A1 (digs (dm v)).length c1, .int .i64 (de v)]] w (Gives w (sc (dneg u != dneg v) (dm u * dm v) (de u + de v))) := by
  have ML := Ho.mk (fun (W : World) (g : Bel w W) => N8.mul_calls A0 A1 c0 c1 (dm u) (dm v) W (h0.bel g) (h1.bel g) (by omega) (by omega))
  have hxy : (digs (dm u * dm v)).length ≤ 4000 := by
    have := D4.len_mul (x := dm u) (y := dm v) (Nat.le_refl _) (Nat.le_refl _)
    omega
  have MK := Ho.mk (fun (A : Option Addr) (c : Nat) (W : World) (gb : Bel w W) (g : Rd W A (digs (dm u * dm v))) (hc : (digs (dm u * dm v)).length ≤ c) => make_calls A c (dm u * dm v) (dneg u != dneg v) (de u + de v) W (T.bel gb) g hc hxy (by omega) (by omega))
  obtain ⟨r, hr⟩ : ∃ r, r = sc (dneg u != dneg v) (dm u * dm v) (de u + de v) := ⟨_, rfl⟩
  rw [← hr] at MK ⊢
  clear hr h0 h1 hx hy hxy
  generalize dm u * dm v = xy at *
  generalize dneg u = n0 at *
  generalize dneg v = n1 at *
  generalize digs (dm u) = l0 at *
  generalize digs (dm v) = l1 at *
  generalize de u = e0 at *
  generalize de v = e1 at *
  have q1 : IntKind.i64.wrap (e0 + e1) = e0 + e1 := IntWalk.i64_in _ (by omega)
  go_enter Tryd.func22, Tryd.ntmps22
  go_wp2_with fail
  have KB := Ho.mk (Blk.new ((w.alloc (.cells #[.bool n0, .slice A0 l0.length c0, .int .i64 e0] 24)).alloc (.cells #[.bool n1, .slice A1 l1.length c1, .int .i64 e1] 24)) [.bool false, .slice none 0 0, .int .i64 0] 24)
  rw [World.size_alloc, World.size_alloc] at KB
  have HB := Ho.mk ((((Bel.refl w).alloc (.cells #[.bool n0, .slice A0 l0.length c0, .int .i64 e0] 24)).alloc (.cells #[.bool n1, .slice A1 l1.length c1, .int .i64 e1] 24)).alloc (.cells #[.bool false, .slice none 0 0, .int .i64 0] 24))
  have nn := D4.ne2 w.heap.size
  have nn2 : ¬ (w.heap.size + 1 + 1 = w.heap.size) := fun q => D4.ne2 w.heap.size q.symm
  go_region_held3 (fun w' => w'.cell? ⟨w.heap.size, 0, none⟩ = some (.bool n0) ∧ w'.cell? ⟨w.heap.size, 1, none⟩ = some (.slice A0 l0.length c0) ∧ w'.cell? ⟨w.heap.size, 2, none⟩ = some (.int .i64 e0) ∧
      w'.cell? ⟨w.heap.size + 1, 0, none⟩ = some (.bool n1) ∧ w'.cell? ⟨w.heap.size + 1, 1, none⟩ = some (.slice A1 l1.length c1) ∧ w'.cell? ⟨w.heap.size + 1, 2, none⟩ = some (.int .i64 e1))
    (first
      | go_keep
      | (go_split_ands
         refine ⟨?_, ?_, ?_, ?_, ?_, ?_⟩ <;> (apply Bel.cell (by assumption); assumption))
      | (all_goals (go_split_ands; apply Bel.cell (by assumption); assumption))
      | (go_split_ands
         refine ⟨?_, ?_, ?_, ?_, ?_, ?_⟩ <;> (refine D4.cell_set3 ?_ (by assumption); first | exact D4.ne2 _ | exact D4.ne1 _))
      | (all_goals (go_split_ands; refine D4.cell_set3 ?_ (by assumption); first | exact D4.ne2 _ | exact D4.ne1 _)))
    (first
      | (go_at_call 61; refine (ML.out _ HB.out.drew).mono ?_; rintro e w1 ⟨A3, c3, rfl, hc3, hr3, hb3⟩)
      | (go_at_call 36; refine (MK.out _ _ _ (HB.out.trans ((Bel.refl _).drew.trans hb3)) hr3 hc3).mono ?_; rintro e w2 ⟨A4, c4, rfl, hc4, hr4, hb4⟩
         have KB2 := Ho.mk (KB.out.bel ((Bel.refl _).drew.trans (hb3.trans hb4)))
         have HB2 := Ho.mk (HB.out.trans ((Bel.refl _).drew.trans (hb3.trans hb4)))
         have y0 := KB2.out.cell (i := 0) rfl
         have y1 := KB2.out.cell (i := 1) rfl
         have y2 := KB2.out.cell (i := 2) rfl
         have z0 := KB2.out.free 0
         have z1 := KB2.out.free 1
         have z2 := KB2.out.free 2))
  have HR4 := Ho.mk hr4
  clear hr4 hr3 hb3 hb4
  go_wp2
  exact gives_end (fn := Tryd.f22) rfl rfl HB2.out (by omega) KB2.out HR4.out hc4
end Go.Proofs.YtnmjnjhijcnbcaaDoor.E3
