/-
  The walks of the document's answer to layer 1: Sub, Mul.
-/
import Derived.Test.YtnmjnjhijcnbcaaDoorR4
import Derived.IntWalk
set_option linter.unusedVariables false
namespace Go.Proofs.YtnmjnjhijcnbcaaDoor.R5
open Go.RowKit Go.Proofs.YtnmjnjhijcnbcaaDoor Go.Proofs.YtnmjnjhijcnbcaaDoor.Ow Go.Proofs.YtnmjnjhijcnbcaaDoor.Pl Go.Proofs.YtnmjnjhijcnbcaaDoor.N2 Go.Proofs.YtnmjnjhijcnbcaaDoor.R1 Go.Proofs.YtnmjnjhijcnbcaaDoor.R2 Go.Proofs.YtnmjnjhijcnbcaaDoor.R3

theorem subNo_calls (A0 A1 : Option Addr) (c0 c1 x y : Nat) (w : World) (h0 : Rd w A0 (digs x)) (h1 : Rd w A1 (digs y)) (hxy : x < y) :
    Calls Tryd.prog 60 #[.slice A0 (digs x).length c0, .slice A1 (digs y).length c1] w
      fun e w' => e = .returned (.tuple #[.slice none 0 0, .bool false]) ∧ Bel w w' := by
  have hlt : decide (cmpI x y < 0) = true := by rw [cmpI_lt (by omega)]; rfl
  have m0 := h0.max
  have m1 := h1.max
  go_enter Tryd.func60, Tryd.ntmps60
  go_wp2_with fail
  (with_reducible refine (R3.cmp_calls A0 A1 c0 c1 x y _ h0 h1).mono ?_); rintro e w1 ⟨rfl, hd⟩
  have hb1 : Bel w w1 := by obtain ⟨n, rfl⟩ := hd; exact (Bel.refl w).drewN n
  clear hd
  go_wp2
  go_ret2
  exact ⟨rfl, hb1⟩

set_option maxHeartbeats 1000000 in
theorem sub_calls (A0 A1 : Option Addr) (c0 c1 x y : Nat) (w : World) (h0 : Rd w A0 (digs x)) (h1 : Rd w A1 (digs y)) (hx : (digs x).length ≤ 50000) (hxy : y ≤ x) :
    Calls Tryd.prog 60 #[.slice A0 (digs x).length c0, .slice A1 (digs y).length c1] w
      fun e w' => ∃ A c, e = .returned (.tuple #[.slice A (digs (x - y)).length c, .bool true]) ∧ (digs (x - y)).length ≤ c ∧ Rd w' A (digs (x - y)) ∧ Bel w w' := by
  have hlt : decide (cmpI x y < 0) = false := by
    rcases Nat.lt_or_eq_of_le hxy with h | h
    · rw [cmpI_gt (by omega)]; rfl
    · rw [cmpI_eq (by omega)]; rfl
  have hcmp := fun W (g0 : Rd W A0 (digs x)) (g1 : Rd W A1 (digs y)) => R3.cmp_calls A0 A1 c0 c1 x y W g0 g1
  have HC := Ho.mk hcmp
  have F0 := Ho.mk (digs_can x).1
  have F1 := Ho.mk (digs_can y).1
  have V0 := Ho.mk (digs_val x)
  have V1 := Ho.mk (digs_val y)
  have hlen : (digs y).length ≤ (digs x).length := digs_len_le.2 (Nat.lt_of_le_of_lt hxy (digs_lt x))
  have XY := Ho.mk hxy
  clear hcmp hxy
  generalize digs x = l0 at *
  generalize digs y = l1 at *
  go_enter Tryd.func60, Tryd.ntmps60
  go_wp2_with fail
  (with_reducible refine (HC.out _ h0 h1).mono ?_); rintro e w1 ⟨rfl, hd⟩
  have hb1 : Bel w w1 := by obtain ⟨n, rfl⟩ := hd; exact (Bel.refl w).drewN n
  have H0 := Ho.mk (h0.bel hb1)
  have H1 := Ho.mk (h1.bel hb1)
  have HB1 := Ho.mk hb1
  have hw1 := hb1.size
  clear hd h0 h1 hb1
  go_wp2
  go_loopw [6, 7, 8] (fun v6 v7 v8 wr => ∃ (i : Nat) (c : Int) (d : List Int), v7 = .int .i64 c ∧ v8 = .int .i64 i ∧ 0 ≤ c ∧ c ≤ 1 ∧ i ≤ l0.length ∧
      Ho (d.length = i) ∧ Ho (Lims d) ∧ Ho (Own wr w1.heap.size 3 1 v6 i (ints d)) ∧ Ho (Bel w1 wr) ∧ Ho (val d + 16777216 ^ i * (-c + (val (l0.drop i) - val (l1.drop i))) = ((x - y : Nat) : Int))) (fun _ _ v8 _ => l0.length - (intOf v8).toNat)
  case atStart => exact ⟨0, 0, [], rfl, rfl, by omega, by omega, Nat.zero_le _, ⟨rfl⟩, ⟨fun x hx => by simp at hx⟩, ⟨Own.nil _ _ _ _⟩, ⟨Bel.refl _⟩, ⟨by have := XY.out; simp [val]; rw [V0.out, V1.out]; omega⟩⟩
  case round =>
    obtain ⟨i, c, d, rfl, rfl, hc0, hc1, hi, HD, HL, HO, HW, HE⟩ := hrel
    rcases Nat.lt_or_ge i l0.length with hlt2 | hge
    · obtain ⟨f0, f1⟩ := F0.out.nth i
      obtain ⟨f2, f3⟩ := F1.out.nth i
      obtain ⟨ad, rfl, x0⟩ := (H0.out.bel HW.out).cell i hlt2
      have q1 : IntKind.i64.wrap (nth l0 i - nth l1 i) = nth l0 i - nth l1 i := IntWalk.i64_in _ (by omega)
      have q2 : IntKind.i64.wrap (nth l0 i - nth l1 i - c) = nth l0 i - nth l1 i - c := IntWalk.i64_in _ (by omega)
      have hi5' : i < 50001 := by omega
      by_cases hs : nth l0 i - nth l1 i - c < 0
      all_goals
        go_wp2
        go_quiet ((go_at_call 90; (refine (at_calls _ _ l1 i _ (H1.out.bel (HW.out.drewN _))).mono ?_); rintro e w' ⟨rfl, rfl⟩; exact ⟨rfl, _, rfl⟩))
        have hbq := (Bel.refl wr).drewN nq
        have HO2 := Ho.mk (HO.out.bel hbq)
        have HW2 := Ho.mk (HW.out.trans hbq)
        clear hbq HO HW x0 q1 q2
        generalize wr.drewN nq = w2 at *
        go_wp2_with (at_builtin; refine wpList_app _ rfl (.tmp 34) (.tmp 36) 22 rfl w1.heap.size 3 (.int .i64 0) 8 Tryd.underlying22 N2.info3 rfl _ i (ints d) _ rfl HO2.out rfl rfl (by omega) (by omega) HW2.out.size ?_; intro v w3 hv hb3)
        go_roundw
        case rel =>
          have he := HE.out
          rw [drop_step l0 i, drop_step l1 i, show nth l0 i + 16777216 * val (l0.drop (i + 1)) - (nth l1 i + 16777216 * val (l1.drop (i + 1))) = (nth l0 i - nth l1 i) + 16777216 * (val (l0.drop (i + 1)) - val (l1.drop (i + 1))) from by omega] at he
          have hs2 := ahead_step he
          first
            | rw [show (nth l0 i - nth l1 i + -c) % 16777216 = nth l0 i - nth l1 i - c + 16777216 from by omega, show (nth l0 i - nth l1 i + -c) / 16777216 = -1 from by omega] at hs2
            | rw [show (nth l0 i - nth l1 i + -c) % 16777216 = nth l0 i - nth l1 i - c from by omega, show (nth l0 i - nth l1 i + -c) / 16777216 = -0 from by omega] at hs2
          refine ⟨i + 1, _, d ++ [_], rfl, by simp, by omega, by omega, by omega, ⟨by simp [HD.out]⟩, ⟨?_⟩, ⟨?_⟩, ⟨⟨HW2.out.out.trans hb3⟩⟩, ⟨by rw [val_snoc, HD.out, Int.pow_succ]; exact hs2⟩⟩
          · exact lims_append HL.out (fun z hz => by simp at hz; subst hz; omega)
          · rw [show ∀ z, ints (d ++ [z]) = ints d ++ [.int .i64 z] from fun z => by simp [ints]]
            exact hv
        case measure => simp [intOf]; omega
    · obtain rfl : i = l0.length := by omega
      have he := HE.out
      rw [drop_nil_val (Nat.le_refl _), drop_nil_val hlen] at he
      have hd0 := val_nonneg HL.out
      have hd1 := val_lt HL.out
      rw [HD.out] at hd1
      have hc : c = 0 := by
        rcases Int.lt_or_le 0 c with h | h
        · obtain rfl : c = 1 := by omega
          have hn := Int.natCast_nonneg (x - y)
          rw [← he] at hn
          simp at hn
          omega
        · omega
      subst hc
      have e : Ho (trimL d = digs (x - y)) := ⟨trim_digs HL.out (by rw [← he]; simp)⟩
      obtain ⟨A, cc, rfl, hcc, hr⟩ := (show Own wr w1.heap.size 3 1 _ d.length (ints d) from by rw [HD.out]; exact HO.out).rd (by rw [HD.out]; omega)
      have HR := Ho.mk hr
      have HDD := Ho.mk HD.out
      clear hr he hd0 hd1
      go_wp2_with (go_at_call 89; (with_reducible refine (R1.trim_calls _ _ d _ HR.out hcc (by rw [HDD.out]; omega)).mono ?_); rintro e w' ⟨A2, c2, rfl, hc2, hr2, hb2⟩; rw [e.out] at hc2 hr2)
      go_ret2
      rw [← e.out]
      exact ⟨_, _, rfl, by rw [e.out]; exact hc2, by rw [e.out]; exact hr2, (HB1.out.trans HW.out).trans hb2⟩
end Go.Proofs.YtnmjnjhijcnbcaaDoor.R5
