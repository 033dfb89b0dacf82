/-
  The walks of package nat: which is less; sum and difference.
-/
import Derived.Test.YtnmjnjhijcnbcaaDoorN3
set_option linter.unusedVariables false
namespace Go.Proofs.YtnmjnjhijcnbcaaDoor.N4
open Go.RowKit Go.Proofs.YtnmjnjhijcnbcaaDoor Go.Proofs.YtnmjnjhijcnbcaaDoor.Ow Go.Proofs.YtnmjnjhijcnbcaaDoor.Pl Go.Proofs.YtnmjnjhijcnbcaaDoor.N1 Go.Proofs.YtnmjnjhijcnbcaaDoor.N2 Go.Proofs.YtnmjnjhijcnbcaaDoor.N3

theorem add_calls (A0 A1 : Option Addr) (c0 c1 x y : Nat) (w : World) (h0 : Rd w A0 (digs x)) (hc0 : (digs x).length ≤ c0) (h1 : Rd w A1 (digs y)) (hc1 : (digs y).length ≤ c1)
    (hx : (digs x).length ≤ 50000) (hy : (digs y).length ≤ 50000) :
    Calls Tryd.prog 55 #[.slice A0 (digs x).length c0, .slice A1 (digs y).length c1] w
      fun e w' => ∃ A c, e = .returned (.slice A (digs (x + y)).length c) ∧ (digs (x + y)).length ≤ c ∧ Rd w' A (digs (x + y)) ∧ Bel w w' := by
  obtain ⟨n, hn⟩ : ∃ n, n = max (digs x).length (digs y).length := ⟨_, rfl⟩
  have e := add_digs x y n (by omega) (by omega)
  have E := Ho.mk e
  have f0 := (digs_can x).1
  have f1 := (digs_can y).1
  have hm : ((max (digs x).length (digs y).length : Nat) : Int) = (n : Int) := by rw [hn]
  clear e
  generalize digs x = l0 at *
  generalize digs y = l1 at *
  have HN := Ho.mk hn
  have F0 := Ho.mk f0
  have F1 := Ho.mk f1
  clear f0 f1 hn hm
  have b0 : Blk ((w.alloc (.cells #[.int .i64 0] 84)).alloc (.cells #[.func (.func 84) #[.pointer (some ⟨w.heap.size, 0, none⟩)] #[]] 85)) w.heap.size 84 [.int .i64 0] := (Blk.new w [.int .i64 0] 84).old _
  have b1 : Blk ((w.alloc (.cells #[.int .i64 0] 84)).alloc (.cells #[.func (.func 84) #[.pointer (some ⟨w.heap.size, 0, none⟩)] #[]] 85)) (w.heap.size + 1) 85 [.func (.func 84) #[.pointer (some ⟨w.heap.size, 0, none⟩)] #[]] := by
    have := Blk.new (w.alloc (.cells #[.int .i64 0] 84)) [.func (.func 84) #[.pointer (some ⟨w.heap.size, 0, none⟩)] #[]] 85
    simpa using this
  have r0 := h0.rdB.bel (((Bel.refl w).alloc (.cells #[.int .i64 0] 84)).alloc (.cells #[.func (.func 84) #[.pointer (some ⟨w.heap.size, 0, none⟩)] #[]] 85))
  have r1 := h1.rdB.bel (((Bel.refl w).alloc (.cells #[.int .i64 0] 84)).alloc (.cells #[.func (.func 84) #[.pointer (some ⟨w.heap.size, 0, none⟩)] #[]] 85))
  have hB := ((Bel.refl w).alloc (.cells #[.int .i64 0] 84)).alloc (.cells #[.func (.func 84) #[.pointer (some ⟨w.heap.size, 0, none⟩)] #[]] 85)
  go_enter Tryd.func55, Tryd.ntmps55
  go_wp2_with (go_at_call 85; (with_reducible refine (alongAdd_calls A0 A1 c0 c1 l0 l1 (n + 1) w.heap.size (w.heap.size + 1) _ (by have := HN.out; omega) _ r0 hc0 r1 hc1 (by have := HN.out; omega) (by omega) F0.out.nth F1.out.nth b0 b1).mono ?_); rintro e w' ⟨A, c, rfl, hl, hr, hb⟩; rw [E.out] at hl hr)
  all_goals
    go_ret
    rw [← E.out]
    exact ⟨A, c, rfl, by rw [E.out]; exact hl, by rw [E.out]; exact hr, ⟨hB.out.trans hb⟩⟩
end Go.Proofs.YtnmjnjhijcnbcaaDoor.N4
