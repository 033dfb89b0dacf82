/-
  The walks of the document's answer to layer 2: Shift, Mul.
-/
import Derived.Test.YtnmjnjhijcnbcaaDoorD2
set_option linter.unusedVariables false
set_option linter.unusedSimpArgs false
namespace Go.Proofs.YtnmjnjhijcnbcaaDoor.D3
open Go.RowKit Go.Proofs.YtnmjnjhijcnbcaaDoor Go.Proofs.YtnmjnjhijcnbcaaDoor.Ow Go.Proofs.YtnmjnjhijcnbcaaDoor.Pl Go.Proofs.YtnmjnjhijcnbcaaDoor.N2 Go.Proofs.YtnmjnjhijcnbcaaDoor.Dp Go.Proofs.YtnmjnjhijcnbcaaDoor.D1 Go.Proofs.YtnmjnjhijcnbcaaDoor.D2

/-- A number is handed back. -/
def Gives (w : World) (v : Int) (e : Ending) (w' : World) : Prop :=
  ∃ A c, e = .returned (.agg #[.bool (dneg v), .slice A (digs (dm v)).length c, .int .i64 (de v)]) ∧ (digs (dm v)).length ≤ c ∧ Rd w' A (digs (dm v)) ∧ Bel w w'
/-- The end of a function whose result lies in a fresh struct's cells. -/
theorem gives_end {fn : Func} {p : Tmp} {tmps : Array Value} {w w2 : World} {v : Int} {b c2 : Nat} {A2 : Option Addr} (hf : fn.results = #[.cell p 24]) (hp : tmps.getD p undef = .pointer (some ⟨b, 0, none⟩))
    (hB : Bel w w2) (hb : w.heap.size ≤ b) (KB : Blk w2 b 24 [.bool false, .slice none 0 0, .int .i64 0]) (hr : Rd w2 A2 (digs (dm v))) (hc : (digs (dm v)).length ≤ c2) :
    bodyPost Tryd.prog fn (Gives w v) .ret { tmps := tmps, defers := [] }
      (((w2.setCell ⟨b, 0, none⟩ (.bool (dneg v))).setCell ⟨b, 1, none⟩ (.slice A2 (digs (dm v)).length c2)).setCell ⟨b, 2, none⟩ (.int .i64 (de v))) := by
  have KF := ((KB.set 0 (.bool (dneg v))).set 1 (.slice A2 (digs (dm v)).length c2)).set 2 (.int .i64 (de v))
  have BF := ((hB.out.setCell (p := ⟨b, 0, none⟩) hb (.bool (dneg v))).setCell (p := ⟨b, 1, none⟩) hb (.slice A2 (digs (dm v)).length c2)).setCell (p := ⟨b, 2, none⟩) hb (.int .i64 (de v))
  have RF : Rd (((w2.setCell ⟨b, 0, none⟩ (.bool (dneg v))).setCell ⟨b, 1, none⟩ (.slice A2 (digs (dm v)).length c2)).setCell ⟨b, 2, none⟩ (.int .i64 (de v))) A2 (digs (dm v)) := by
    by_cases h0 : dm v = 0
    · rw [h0, digs_zero]; exact Rd.nil _ _
    · exact rd_set3 hr (fun ad2 he => by subst he; exact rd_far KB (fun z => by simp) hr h0) _ _ _
  exact bodyPost_ret (v := .agg #[.bool (dneg v), .slice A2 (digs (dm v)).length c2, .int .i64 (de v)]) (res3 hf hp KF) rfl ⟨A2, c2, rfl, hc, RF, ⟨BF⟩⟩

set_option maxHeartbeats 1000000 in
theorem shift_calls (A : Option Addr) (c : Nat) (v k : Int) (w : World) (h : Rd w A (digs (dm v))) (hc : (digs (dm v)).length ≤ c) (hx : (digs (dm v)).length ≤ 4000) (he0 : -20000 ≤ de v) (he1 : de v ≤ 20000) (hk0 : -20000 ≤ k) (hk1 : k ≤ 20000) :
    Calls Tryd.prog 31 #[.agg #[.bool (dneg v), .slice A (digs (dm v)).length c, .int .i64 (de v)], .int .i64 k] w (Gives w (sc (dneg v) (dm v) (de v + k))) := by
  have MK := Ho.mk (fun (W : World) (g : Bel w W) => make_calls A c (dm v) (dneg v) (de v + k) W (h.bel g) hc hx (by omega) (by omega))
  obtain ⟨r, hr⟩ : ∃ r, r = sc (dneg v) (dm v) (de v + k) := ⟨_, rfl⟩
  rw [← hr] at MK ⊢
  clear hr h hx
  generalize dneg v = n at *
  generalize de v = ev at *
  generalize digs (dm v) = l at *
  go_enter Tryd.func31, Tryd.ntmps31
  go_wp2_with fail
  have KB := Ho.mk (Blk.new (w.alloc (.cells #[.bool n, .slice A l.length c, .int .i64 ev] 24)) [.bool false, .slice none 0 0, .int .i64 0] 24)
  (with_reducible refine (MK.out _ (((Bel.refl w).alloc _).alloc _)).mono ?_); rintro e w1 ⟨A2, c2, rfl, hc2, hr2, hb2⟩
  rw [World.size_alloc] at KB
  have HB2 := Ho.mk ((((Bel.refl w).alloc _).alloc _).trans hb2)
  have KB2 := Ho.mk (KB.out.bel hb2)
  have y0 := KB2.out.cell (i := 0) rfl
  have y1 := KB2.out.cell (i := 1) rfl
  have y2 := KB2.out.cell (i := 2) rfl
  have z0 := KB2.out.free 0
  have z1 := KB2.out.free 1
  have z2 := KB2.out.free 2
  have HR2 := Ho.mk hr2
  clear hr2 hb2 KB
  go_wp2
  exact gives_end (fn := Tryd.f31) rfl rfl HB2.out (by omega) KB2.out HR2.out hc2
end Go.Proofs.YtnmjnjhijcnbcaaDoor.D3
