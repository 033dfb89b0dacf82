/-
  The document's Add over numbers.
-/
import Derived.Test.YtnmjnjhijcnbcaaDoorD6
set_option linter.unusedVariables false
namespace Go.Proofs.YtnmjnjhijcnbcaaDoor.D7
open Go.RowKit Go.Proofs.YtnmjnjhijcnbcaaDoor Go.Proofs.YtnmjnjhijcnbcaaDoor.Ow Go.Proofs.YtnmjnjhijcnbcaaDoor.Pl Go.Proofs.YtnmjnjhijcnbcaaDoor.Dp Go.Proofs.YtnmjnjhijcnbcaaDoor.D3 Go.Proofs.YtnmjnjhijcnbcaaDoor.D6
theorem add_calls (A0 A1 : Option Addr) (c0 c1 : Nat) (u v : Int) (w : World) (h0 : Rd w A0 (digs (dm u))) (h1 : Rd w A1 (digs (dm v))) (hc0 : (digs (dm u)).length ≤ c0) (hc1 : (digs (dm v)).length ≤ c1)
    (hl0 : (digs (dm u)).length ≤ 1000) (hl1 : (digs (dm v)).length ≤ 1000) (b0 : -20000 ≤ de u) (b1 : de u ≤ 20000) (b2 : -20000 ≤ de v) (b3 : de v ≤ 20000) :
    Calls Tryd.prog 21 #[.agg #[.bool (dneg u), .slice A0 (digs (dm u)).length c0, .int .i64 (de u)], .agg #[.bool (dneg v), .slice A1 (digs (dm v)).length c1, .int .i64 (de v)]] w (Gives w (u + v)) := by
  by_cases hu : u = 0
  · subst hu
    rw [Int.zero_add, show dneg 0 = false from rfl, show dm 0 = 0 from odd_zero, digs_zero, de_zero]
    exact addZ_calls A0 A1 c0 c1 v w h1 hc1
  by_cases hv : v = 0
  · subst hv
    rw [Int.add_zero, show dneg 0 = false from rfl, show dm 0 = 0 from odd_zero, digs_zero, de_zero]
    exact addZ2_calls A0 A1 c0 c1 u w h0 hc0 hu
  have hx : dm u ≠ 0 := fun e => hu (dm_zero.1 e)
  have hy : dm v ≠ 0 := fun e => hv (dm_zero.1 e)
  have e1 := sc_self u
  have e2 := sc_self v
  by_cases hs : dneg v = dneg u
  · rw [hs] at e2 ⊢
    rcases Int.lt_or_le (de v) (de u) with he | he
    · have := addS2_calls A0 A1 c0 c1 (dm u) (dm v) (dneg u) (de u) (de v) w h0 h1 hc0 hc1 hx hy hl0 hl1 he b2 b1
      rw [e1, e2] at this; exact this
    · have := addS_calls A0 A1 c0 c1 (dm u) (dm v) (dneg u) (de u) (de v) w h0 h1 hc0 hc1 hx hy hl0 hl1 he b0 b3
      rw [e1, e2] at this; exact this
  · have hs' : dneg v = !dneg u := by cases h1 : dneg v <;> cases h2 : dneg u <;> simp [h1, h2] at hs ⊢
    rw [hs'] at e2 ⊢
    rcases Int.lt_or_le (de v) (de u) with he | he
    · obtain ⟨k, hk⟩ := Int.eq_ofNat_of_zero_le (show 0 ≤ de u - de v by omega)
      rcases Nat.lt_or_ge (dm u * 2 ^ k) (dm v) with hl | hl
      · have := addV2_calls A0 A1 c0 c1 (dm u) (dm v) (dneg u) (de u) (de v) w h0 h1 hc0 hc1 hx hy hl0 hl1 he b2 b1 (fun j hj => by rw [show j = k from by omega]; exact hl)
        rw [e1, e2] at this; exact this
      · have := addU2_calls A0 A1 c0 c1 (dm u) (dm v) (dneg u) (de u) (de v) w h0 h1 hc0 hc1 hx hy hl0 hl1 he b2 b1 (fun j hj => by rw [show j = k from by omega]; exact hl)
        rw [e1, e2] at this; exact this
    · obtain ⟨k, hk⟩ := Int.eq_ofNat_of_zero_le (show 0 ≤ de v - de u by omega)
      rcases Nat.lt_or_ge (dm u) (dm v * 2 ^ k) with hl | hl
      · have := addV_calls A0 A1 c0 c1 (dm u) (dm v) (dneg u) (de u) (de v) w h0 h1 hc0 hc1 hx hy hl0 hl1 he b0 b3 (fun j hj => by rw [show j = k from by omega]; exact hl)
        rw [e1, e2] at this; exact this
      · have := addU_calls A0 A1 c0 c1 (dm u) (dm v) (dneg u) (de u) (de v) w h0 h1 hc0 hc1 hx hy hl0 hl1 he b0 b3 (fun j hj => by rw [show j = k from by omega]; exact hl)
        rw [e1, e2] at this; exact this
end Go.Proofs.YtnmjnjhijcnbcaaDoor.D7
