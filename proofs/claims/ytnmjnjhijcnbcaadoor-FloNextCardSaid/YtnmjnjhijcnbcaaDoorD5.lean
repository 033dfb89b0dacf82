/-
  The walk of the document's answer to layer 2: Of.
-/
import Derived.Test.YtnmjnjhijcnbcaaDoorD4
set_option linter.unusedVariables false
set_option linter.unusedSimpArgs false
namespace Go.Proofs.YtnmjnjhijcnbcaaDoor.D5
open Go.RowKit Go.Proofs.YtnmjnjhijcnbcaaDoor Go.Proofs.YtnmjnjhijcnbcaaDoor.Ow Go.Proofs.YtnmjnjhijcnbcaaDoor.Pl Go.Proofs.YtnmjnjhijcnbcaaDoor.N2 Go.Proofs.YtnmjnjhijcnbcaaDoor.Dp Go.Proofs.YtnmjnjhijcnbcaaDoor.D1 Go.Proofs.YtnmjnjhijcnbcaaDoor.D2 Go.Proofs.YtnmjnjhijcnbcaaDoor.D3

theorem of_len {N : Nat} (h : N ≤ 9223372036854775807) : (digs N).length ≤ 3 :=
  digs_len_le.2 (Nat.lt_of_le_of_lt h (by decide))
set_option maxHeartbeats 1000000 in
theorem of_calls (n : Int) (w : World) (h0 : -9223372036854775807 ≤ n) (h1 : n ≤ 9223372036854775807) :
    Calls Tryd.prog 35 #[.int .i64 n] w (Gives w (sc (decide (n < 0)) n.natAbs 0)) := by
  have hl : (digs n.natAbs).length ≤ 3 := of_len (by omega)
  have OF := Ho.mk (fun (m : Int) (hm : n.natAbs = m.toNat) (hm2 : m ≤ 9223372036854775807) (W : World) => R2.refOf_calls m n.natAbs W hm hm2)
  have MK := Ho.mk (fun (b : Bool) (A : Option Addr) (c : Nat) (W : World) (g : Rd W A (digs n.natAbs)) (hc : (digs n.natAbs).length ≤ c) => make_calls A c n.natAbs b 0 W g hc (by omega) (by omega) (by omega))
  have KB := Ho.mk (Blk.new w [.bool false, .slice none 0 0, .int .i64 0] 24)
  have HB := Ho.mk ((Bel.refl w).alloc (.cells #[.bool false, .slice none 0 0, .int .i64 0] 24))
  rcases Int.lt_or_le n 0 with hn | hn
  · have hm : Ho (n.natAbs = (-n).toNat) := ⟨by omega⟩
    have MK2 := Ho.mk (MK.out true)
    rw [show decide (n < 0) = true from decide_eq_true hn] at *
    obtain ⟨r, hr⟩ : ∃ r, r = sc true n.natAbs 0 := ⟨_, rfl⟩
    rw [← hr] at MK2 ⊢
    clear hr hl MK
    go_enter Tryd.func35, Tryd.ntmps35
    go_wp2_with fail
    (with_reducible refine (OF.out (-n) hm.out (by omega) _).mono ?_); rintro e w1 ⟨A3, c3, rfl, hc3, hr3, hb3⟩
    go_wp2_with fail
    (with_reducible refine (MK2.out _ _ _ hr3 hc3).mono ?_); rintro e w2 ⟨A4, c4, rfl, hc4, hr4, hb4⟩
    have KB2 := Ho.mk (KB.out.bel (hb3.trans hb4))
    have HB2 := Ho.mk (HB.out.trans (hb3.trans hb4))
    have y0 := KB2.out.cell (i := 0) rfl
    have y1 := KB2.out.cell (i := 1) rfl
    have y2 := KB2.out.cell (i := 2) rfl
    have z0 := KB2.out.free 0
    have z1 := KB2.out.free 1
    have z2 := KB2.out.free 2
    have HR4 := Ho.mk hr4
    clear hr4 hr3 hb3 hb4
    go_wp2
    exact gives_end (fn := Tryd.f35) rfl rfl HB2.out (by omega) KB2.out HR4.out hc4
  · have hm : Ho (n.natAbs = n.toNat) := ⟨by omega⟩
    have MK2 := Ho.mk (MK.out false)
    rw [show decide (n < 0) = false from decide_eq_false (by omega)] at *
    obtain ⟨r, hr⟩ : ∃ r, r = sc false n.natAbs 0 := ⟨_, rfl⟩
    rw [← hr] at MK2 ⊢
    clear hr hl MK
    go_enter Tryd.func35, Tryd.ntmps35
    go_wp2_with fail
    (with_reducible refine (OF.out n hm.out (by omega) _).mono ?_); rintro e w1 ⟨A3, c3, rfl, hc3, hr3, hb3⟩
    go_wp2_with fail
    (with_reducible refine (MK2.out _ _ _ hr3 hc3).mono ?_); rintro e w2 ⟨A4, c4, rfl, hc4, hr4, hb4⟩
    have KB2 := Ho.mk (KB.out.bel (hb3.trans hb4))
    have HB2 := Ho.mk (HB.out.trans (hb3.trans hb4))
    have y0 := KB2.out.cell (i := 0) rfl
    have y1 := KB2.out.cell (i := 1) rfl
    have y2 := KB2.out.cell (i := 2) rfl
    have z0 := KB2.out.free 0
    have z1 := KB2.out.free 1
    have z2 := KB2.out.free 2
    have HR4 := Ho.mk hr4
    clear hr4 hr3 hb3 hb4
    go_wp2
    exact gives_end (fn := Tryd.f35) rfl rfl HB2.out (by omega) KB2.out HR4.out hc4
end Go.Proofs.YtnmjnjhijcnbcaaDoor.D5
