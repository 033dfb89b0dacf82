/-
  The walks of package nat: which is less; the difference.
-/
import Derived.Test.YtnmjnjhijcnbcaaDoorN4
import Derived.Deep.QuietTactic
import Derived.BigQuiet
set_option linter.unusedVariables false
namespace Go.Proofs.YtnmjnjhijcnbcaaDoor.N5
open Go.RowKit Go.Proofs.YtnmjnjhijcnbcaaDoor Go.Proofs.YtnmjnjhijcnbcaaDoor.Ow Go.Proofs.YtnmjnjhijcnbcaaDoor.Pl Go.Proofs.YtnmjnjhijcnbcaaDoor.N1 Go.Proofs.YtnmjnjhijcnbcaaDoor.N2 Go.Proofs.YtnmjnjhijcnbcaaDoor.N3 Go.Proofs.YtnmjnjhijcnbcaaDoor.N4

/-- cmp.Compare at ints. -/
theorem compare_calls (x y : Int) (w : World) : Calls Tryd.prog 102 #[.int .i64 x, .int .i64 y] w fun e w' => e = .returned (.int .i64 (cmpI x y)) ∧ w = w' := by
  rcases Int.lt_trichotomy x y with h | h | h
  · have e := Ho.mk (cmpI_lt h)
    go_enter Tryd.func102, Tryd.ntmps102
    go_wp2
    go_ret
    exact ⟨by rw [e.out]; rfl, rfl⟩
  · have e := Ho.mk (cmpI_eq h)
    subst h
    go_enter Tryd.func102, Tryd.ntmps102
    go_wp2
    go_ret
    exact ⟨by rw [e.out]; rfl, rfl⟩
  · have e := Ho.mk (cmpI_gt h)
    go_enter Tryd.func102, Tryd.ntmps102
    go_wp2
    go_ret
    exact ⟨by rw [e.out]; rfl, rfl⟩

set_option maxHeartbeats 1000000 in
theorem cmp_calls (A0 A1 : Option Addr) (c0 c1 x y : Nat) (w : World) (h0 : Rd w A0 (digs x)) (h1 : Rd w A1 (digs y)) :
    Calls Tryd.prog 87 #[.slice A0 (digs x).length c0, .slice A1 (digs y).length c1] w
      fun e w' => e = .returned (.int .i64 (cmpI x y)) ∧ ∃ n, w' = w.drewN n := by
  have m0 := h0.max
  have m1 := h1.max
  by_cases hne : (digs x).length = (digs y).length
  · have e := Ho.mk (cmp_digs x y hne)
    generalize digs x = l0 at *
    generalize digs y = l1 at *
    have hb : ((l0.length : Int) != (l1.length : Int)) = false := by rw [hne]; simp
    have HN := Ho.mk hne
    clear hne
    go_enter Tryd.func87, Tryd.ntmps87
    go_wp2
    go_loopw [5] (fun v wr => ∃ j : Int, -1 ≤ j ∧ j < l0.length ∧ v = .int .i64 j ∧ Ho (cmpTop l0 l1 (j + 1).toNat = cmpI x y) ∧ Ho (∃ k, wr = w.drewN k)) (fun v _ => (intOf v + 1).toNat)
    case atStart => exact ⟨l0.length - 1, by omega, by omega, rfl, ⟨by rw [← e.out]; congr 1; omega⟩, ⟨0, rfl⟩⟩
    case round =>
      obtain ⟨j, hj, hj1, rfl, ht, hw⟩ := hrel
      obtain ⟨kw, hw⟩ := hw.out
      subst hw
      rcases Int.lt_or_le j 0 with hz | hz
      · obtain rfl : j = -1 := by omega
        go_wp2
        go_ret
        exact ⟨by rw [← ht.out]; rfl, kw, rfl⟩
      · obtain ⟨m, rfl⟩ := Int.eq_ofNat_of_zero_le hz
        obtain ⟨a0, rfl, x0⟩ := h0.cell m (by omega)
        obtain ⟨a1, rfl, x1⟩ := h1.cell m (by have := HN.out; omega)
        have hm1 : (m : Int) < l1.length := by have := HN.out; omega
        by_cases hq : nth l0 m = nth l1 m
        · have ht' : Ho (cmpTop l0 l1 m = cmpI x y) := ⟨by rw [← ht.out, show ((m : Int) + 1).toNat = m + 1 from by omega]; simp only [cmpTop]; rw [if_pos hq]⟩
          have hqb : (nth l0 m != nth l1 m) = false := by rw [hq]; simp
          clear hq ht
          go_wp2
          go_quiet (fail)
          go_wp2
          go_roundw
          case rel => exact ⟨(m : Int) - 1, by omega, by omega, rfl, ⟨by rw [← ht'.out]; congr 1; omega⟩, ⟨_, rfl⟩⟩
          case measure => simp [intOf]
        · have ht' : Ho (cmpI (nth l0 m) (nth l1 m) = cmpI x y) := ⟨by rw [← ht.out, show ((m : Int) + 1).toNat = m + 1 from by omega]; simp only [cmpTop]; rw [if_neg hq]⟩
          have hqb : (nth l0 m != nth l1 m) = true := bne_iff_ne.mpr hq
          clear hq ht
          go_wp2
          go_quiet (fail)
          go_wp2
          go_quiet ((go_at_call 102; (with_reducible refine (compare_calls _ _ _).mono ?_); rintro e w' ⟨rfl, rfl⟩; exact ⟨rfl, _, rfl⟩))
          go_wp2
          go_ret
          exact ⟨by rw [ht'.out]; rfl, _, (World.drewN_drewN _ _ _).trans (World.drewN_drewN _ _ _)⟩
  · have e := Ho.mk (cmp_len x y hne)
    have hb : (((digs x).length : Int) != ((digs y).length : Int)) = true := by rw [bne_iff_ne]; omega
    clear hne
    go_enter Tryd.func87, Tryd.ntmps87
    go_wp2_with (go_at_call 102; (with_reducible refine (compare_calls _ _ _).mono ?_); rintro e w' ⟨rfl, rfl⟩)
    go_ret
    exact ⟨by rw [e.out]; rfl, 0, rfl⟩

theorem sub_calls (A0 A1 : Option Addr) (c0 c1 x y : Nat) (w : World) (h0 : Rd w A0 (digs x)) (hc0 : (digs x).length ≤ c0) (h1 : Rd w A1 (digs y)) (hc1 : (digs y).length ≤ c1)
    (hx : (digs x).length ≤ 50000) (hxy : y ≤ x) :
    Calls Tryd.prog 56 #[.slice A0 (digs x).length c0, .slice A1 (digs y).length c1] w
      fun e w' => ∃ A c, e = .returned (.tuple #[.slice A (digs (x - y)).length c, .bool true]) ∧ (digs (x - y)).length ≤ c ∧ Rd w' A (digs (x - y)) ∧ Bel w w' := by
  have E := Ho.mk (sub_digs x y hxy)
  have hlt : decide (cmpI x y < 0) = false := by
    rcases Nat.lt_or_eq_of_le hxy with h | h
    · rw [cmpI_gt (by omega)]; rfl
    · rw [cmpI_eq (by omega)]; rfl
  have hcmp := fun W (g0 : Rd W A0 (digs x)) (g1 : Rd W A1 (digs y)) => cmp_calls A0 A1 c0 c1 x y W g0 g1
  have HC := Ho.mk hcmp
  have F0 := Ho.mk (digs_can x).1
  have F1 := Ho.mk (digs_can y).1
  clear hcmp hxy
  generalize digs x = l0 at *
  generalize digs y = l1 at *
  go_enter Tryd.func56, Tryd.ntmps56
  go_wp2_with fail
  (with_reducible refine (HC.out _ h0 h1).mono ?_); rintro e w1 ⟨rfl, hd⟩
  have hb1 : Bel w w1 := by obtain ⟨n, rfl⟩ := hd; exact (Bel.refl w).drewN n
  clear hd
  have b0 := Blk.new w1 [.int .i64 0] 84
  have hB := (hb1.alloc (.cells #[.int .i64 0] 84))
  have r0 := ((h0.bel hb1).rdB).bel ((Bel.refl w1).alloc (.cells #[.int .i64 0] 84))
  have r1 := ((h1.bel hb1).rdB).bel ((Bel.refl w1).alloc (.cells #[.int .i64 0] 84))
  go_wp2_with (go_at_call 85; (with_reducible refine (alongSub_calls A0 A1 c0 c1 l0 l1 l0.length w1.heap.size _ rfl _ r0 hc0 r1 hc1 (by omega) F0.out.nth F1.out.nth b0).mono ?_); rintro e w' ⟨A, c, rfl, hl, hr, hb⟩; rw [E.out] at hl hr)
  go_ret2
  rw [← E.out]
  exact ⟨A, c, rfl, by rw [E.out]; exact hl, by rw [E.out]; exact hr, ⟨hB.out.trans (hb.mono hb1.size)⟩⟩

theorem subNo_calls (A0 A1 : Option Addr) (c0 c1 x y : Nat) (w : World) (h0 : Rd w A0 (digs x)) (h1 : Rd w A1 (digs y)) (hxy : x < y) :
    Calls Tryd.prog 56 #[.slice A0 (digs x).length c0, .slice A1 (digs y).length c1] w
      fun e w' => e = .returned (.tuple #[.slice none 0 0, .bool false]) ∧ Bel w w' := by
  have hlt : decide (cmpI x y < 0) = true := by rw [cmpI_lt (by omega)]; rfl
  have m0 := h0.max
  have m1 := h1.max
  go_enter Tryd.func56, Tryd.ntmps56
  go_wp2_with fail
  (with_reducible refine (cmp_calls A0 A1 c0 c1 x y _ h0 h1).mono ?_); rintro e w1 ⟨rfl, hd⟩
  have hb1 : Bel w w1 := by obtain ⟨n, rfl⟩ := hd; exact (Bel.refl w).drewN n
  clear hd
  go_wp2
  go_ret2
  exact ⟨rfl, hb1⟩
end Go.Proofs.YtnmjnjhijcnbcaaDoor.N5
