/-
  The walks of the document's answer to layer 1: Int, Add, Sub.
-/
import Derived.Test.YtnmjnjhijcnbcaaDoorR3
set_option linter.unusedVariables false
namespace Go.Proofs.YtnmjnjhijcnbcaaDoor.R4
open Go.RowKit Go.Proofs.YtnmjnjhijcnbcaaDoor Go.Proofs.YtnmjnjhijcnbcaaDoor.Ow Go.Proofs.YtnmjnjhijcnbcaaDoor.Pl Go.Proofs.YtnmjnjhijcnbcaaDoor.N2 Go.Proofs.YtnmjnjhijcnbcaaDoor.R1 Go.Proofs.YtnmjnjhijcnbcaaDoor.R2 Go.Proofs.YtnmjnjhijcnbcaaDoor.R3

set_option maxHeartbeats 400000 in
theorem intYes_calls (A : Option Addr) (c x : Nat) (w : World) (h : Rd w A (digs x)) (hx : blen x ≤ 62) :
    Calls Tryd.prog 100 #[.slice A (digs x).length c] w fun e w' => e = .returned (.tuple #[.int .i64 (x : Int), .bool true]) ∧ w = w' := by
  have hm := h.max
  have L := Ho.mk (digs_can x).1
  have V := Ho.mk (digs_val x)
  have hx62 : x < 4611686018427387904 := blen_le.1 hx
  have HX := Ho.mk hx62
  have HC := Ho.mk (fun W (g : Rd W A (digs x)) => len_calls A c x W g)
  have hd : decide (((blen x : Nat) : Int) > 62) = false := decide_eq_false (by omega)
  clear hx62
  generalize digs x = l at *
  generalize blen x = b at *
  go_enter Tryd.func100, Tryd.ntmps100
  go_wp2_with fail
  (with_reducible refine (HC.out _ h).mono ?_); rintro e w1 ⟨rfl, rfl⟩
  go_wp2
  go_loop [4, 5] (fun v4 v5 => ∃ (n j : Int), v4 = .int .i64 n ∧ v5 = .int .i64 j ∧ -1 ≤ j ∧ j < l.length ∧ Ho (n = val (l.drop (j + 1).toNat))) (fun _ v5 => (intOf v5 + 1).toNat)
  case atStart => exact ⟨0, l.length - 1, rfl, rfl, by omega, by omega, ⟨by rw [drop_nil_val (by omega)]⟩⟩
  case round =>
    obtain ⟨n, j, rfl, rfl, hj, hj1, hn⟩ := hrel
    rcases Int.lt_or_le j 0 with hz | hz
    · obtain rfl : j = -1 := by omega
      have e : Ho (n = x) := ⟨by rw [hn.out, ← V.out]; rfl⟩
      clear hn
      go_wp2
      go_ret2
      exact ⟨by rw [e.out]; rfl, rfl⟩
    · obtain ⟨m, rfl⟩ := Int.eq_ofNat_of_zero_le hz
      obtain ⟨ad, rfl, x0⟩ := h.cell m (by omega)
      have hstep := drop_step l m
      have hle := val_drop_le L.out m
      have hnn := val_nonneg (L.out.drop (m + 1))
      have hf := L.out.nth m
      have hn' := hn.out
      rw [show ((m : Int) + 1).toNat = m + 1 from by omega] at hn'
      rw [← hn'] at hstep hnn
      rw [V.out] at hle
      have hX := HX.out
      have q0 : 0 ≤ n * 16777216 := by omega
      have q1 : n * 16777216 ≤ 4611686018427387904 := by omega
      have HS := Ho.mk hstep
      obtain ⟨f0, f1⟩ := hf
      clear hstep hle hn' hX hn hnn
      go_wp2
      go_round
      case rel => exact ⟨n * 16777216 + nth l m, (m : Int) - 1, rfl, rfl, by omega, by omega, ⟨by rw [show ((m : Int) - 1 + 1).toNat = m from by omega, HS.out]; omega⟩⟩
      case measure => simp [intOf]
theorem intNo_calls (A : Option Addr) (c x : Nat) (w : World) (h : Rd w A (digs x)) (hx : 62 < blen x) :
    Calls Tryd.prog 100 #[.slice A (digs x).length c] w fun e w' => e = .returned (.tuple #[.int .i64 0, .bool false]) ∧ w = w' := by
  have HC := Ho.mk (fun W (g : Rd W A (digs x)) => len_calls A c x W g)
  generalize blen x = b at *
  go_enter Tryd.func100, Tryd.ntmps100
  go_wp2_with fail
  (with_reducible refine (HC.out _ h).mono ?_); rintro e w1 ⟨rfl, rfl⟩
  go_wp2
  go_ret2
  exact ⟨rfl, rfl⟩

set_option maxHeartbeats 1000000 in
theorem add_calls (A0 A1 : Option Addr) (c0 c1 x y : Nat) (w : World) (h0 : Rd w A0 (digs x)) (h1 : Rd w A1 (digs y)) (hx : (digs x).length ≤ 50000) (hy : (digs y).length ≤ 50000) :
    Calls Tryd.prog 58 #[.slice A0 (digs x).length c0, .slice A1 (digs y).length c1] w
      fun e w' => ∃ A c, e = .returned (.slice A (digs (x + y)).length c) ∧ (digs (x + y)).length ≤ c ∧ Rd w' A (digs (x + y)) ∧ Bel w w' := by
  have F0 := Ho.mk (digs_can x).1
  have F1 := Ho.mk (digs_can y).1
  have V0 := Ho.mk (digs_val x)
  have V1 := Ho.mk (digs_val y)
  generalize digs x = l0 at *
  generalize digs y = l1 at *
  have H0 := Ho.mk h0
  have H1 := Ho.mk h1
  clear h0 h1
  go_enter Tryd.func58, Tryd.ntmps58
  go_wp2
  go_loopw [5, 6, 7] (fun v5 v6 v7 wr => ∃ (i : Nat) (c : Int) (d : List Int), v6 = .int .i64 c ∧ v7 = .int .i64 i ∧ 0 ≤ c ∧ c ≤ 1 ∧ Ho (i ≤ max l0.length l1.length ∨ c = 0 ∧ i = max l0.length l1.length + 1) ∧ i ≤ 50001 ∧
      Ho (d.length = i) ∧ Ho (Lims d) ∧ Ho (Own wr w.heap.size 3 1 v5 i (ints d)) ∧ Ho (Bel w wr) ∧ Ho (val d + 16777216 ^ i * (c + (val (l0.drop i) + val (l1.drop i))) = ((x + y : Nat) : Int))) (fun _ _ v7 _ => 60000 - (intOf v7).toNat)
  case atStart => exact ⟨0, 0, [], rfl, rfl, by omega, by omega, ⟨.inl (Nat.zero_le _)⟩, by omega, ⟨rfl⟩, ⟨fun x hx => by simp at hx⟩, ⟨Own.nil _ _ _ _⟩, ⟨Bel.refl _⟩, ⟨by simp [val]; rw [V0.out, V1.out]⟩⟩
  case round =>
    obtain ⟨i, c, d, rfl, rfl, hc0, hc1, hi, hi5, HD, HL, HO, HW, HE⟩ := hrel
    have go : (i < l0.length ∨ i < l1.length ∨ 0 < c) ∨ (l0.length ≤ i ∧ l1.length ≤ i ∧ c = 0) := by omega
    rcases go with go | ⟨ga, gb, gc⟩
    · have him : i ≤ max l0.length l1.length := by have := hi.out; omega
      have HIM := Ho.mk him
      obtain ⟨f0, f1⟩ := F0.out.nth i
      obtain ⟨f2, f3⟩ := F1.out.nth i
      have hi5' : i + 1 ≤ 50001 := by omega
      by_cases k0 : i < l0.length
      all_goals by_cases k1 : i < l1.length
      all_goals try (have hcp : 0 < c := by omega)
      all_goals
        have hnx : Ho (i + 1 ≤ max l0.length l1.length ∨ (nth l0 i + nth l1 i + c) / 16777216 = 0 ∧ i + 1 = max l0.length l1.length + 1) := ⟨by
          by_cases hm : i + 1 ≤ max l0.length l1.length
          · exact .inl hm
          · have a0 := nth_ge (l := l0) (i := i) (by omega)
            have a1 := nth_ge (l := l1) (i := i) (by omega)
            rw [a0, a1]; right; omega⟩
        clear go him hi
        go_wp2_with (first | (go_at_call 90; ((with_reducible first | refine (at_calls _ _ l0 i _ (H0.out.bel HW.out)).mono ?_ | refine (at_calls _ _ l1 i _ (H1.out.bel HW.out)).mono ?_); rintro e w' ⟨rfl, rfl⟩)) | (at_builtin; refine wpList_app _ rfl (.tmp 34) (.tmp 37) 22 rfl w.heap.size 3 (.int .i64 0) 8 Tryd.underlying22 info3 rfl _ i (ints d) _ rfl HO.out rfl rfl (by omega) (by omega) HW.out.size ?_; intro v w1 hv hb1))
        go_roundw
        case rel =>
          refine ⟨i + 1, (nth l0 i + nth l1 i + c) / 16777216, d ++ [(nth l0 i + nth l1 i + c) % 16777216], rfl, by simp, by omega, by omega, hnx, hi5', ⟨by simp [HD.out]⟩, ⟨lims_append HL.out (fun z hz => by simp at hz; subst hz; omega)⟩, ⟨?_⟩, ⟨⟨HW.out.out.trans hb1⟩⟩, ⟨?_⟩⟩
          · rw [show ints (d ++ [(nth l0 i + nth l1 i + c) % 16777216]) = ints d ++ [.int .i64 ((nth l0 i + nth l1 i + c) % 16777216)] from by simp [ints]]
            exact hv
          · have he := HE.out
            rw [drop_step l0 i, drop_step l1 i, show nth l0 i + 16777216 * val (l0.drop (i + 1)) + (nth l1 i + 16777216 * val (l1.drop (i + 1))) = (nth l0 i + nth l1 i) + 16777216 * (val (l0.drop (i + 1)) + val (l1.drop (i + 1))) from by omega] at he
            rw [val_snoc, HD.out, Int.pow_succ]
            exact ahead_step he
        case measure => simp [intOf]; omega
    · subst gc
      have e : Ho (trimL d = digs (x + y)) := ⟨by
        have he := HE.out
        rw [drop_nil_val ga, drop_nil_val gb] at he
        simp at he
        exact trim_digs HL.out (by rw [he]; simp)⟩
      obtain ⟨A, cc, rfl, hcc, hr⟩ := (show Own wr w.heap.size 3 1 _ d.length (ints d) from by rw [HD.out]; exact HO.out).rd (by rw [HD.out]; omega)
      have HR := Ho.mk hr
      clear hr hi
      go_wp2_with (go_at_call 89; (with_reducible refine (R1.trim_calls _ _ d _ HR.out hcc (by rw [HD.out]; omega)).mono ?_); rintro e w' ⟨A2, c2, rfl, hc2, hr2, hb2⟩; rw [e.out] at hc2 hr2)
      go_ret
      rw [← e.out]
      exact ⟨_, _, rfl, by rw [e.out]; exact hc2, by rw [e.out]; exact hr2, HW.out.trans hb2⟩
end Go.Proofs.YtnmjnjhijcnbcaaDoor.R4
