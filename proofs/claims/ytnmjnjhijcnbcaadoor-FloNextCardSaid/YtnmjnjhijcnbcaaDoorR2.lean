/-
  The walks of the document's answer to layer 1: Same, Of.
-/
import Derived.Test.YtnmjnjhijcnbcaaDoorR1
import Derived.Test.YtnmjnjhijcnbcaaDoorN7
set_option linter.unusedVariables false
namespace Go.Proofs.YtnmjnjhijcnbcaaDoor.R2
open Go.RowKit Go.Proofs.YtnmjnjhijcnbcaaDoor Go.Proofs.YtnmjnjhijcnbcaaDoor.Ow Go.Proofs.YtnmjnjhijcnbcaaDoor.Pl Go.Proofs.YtnmjnjhijcnbcaaDoor.N2 Go.Proofs.YtnmjnjhijcnbcaaDoor.N7

def sameB (a b : List Int) : Bool := decide (a = b)
theorem sameB_self (a : List Int) : sameB a a = true := by simp [sameB]
set_option maxHeartbeats 400000 in
theorem same_calls (A0 A1 : Option Addr) (c0 c1 : Nat) (a b : List Int) (w : World) (h0 : Rd w A0 a) (h1 : Rd w A1 b) :
    Calls Tryd.prog 53 #[.slice A0 a.length c0, .slice A1 b.length c1] w fun e w' => e = .returned (.bool (sameB a b)) ∧ ∃ n, w' = w.drewN n := by
  have m0 := h0.max
  have m1 := h1.max
  by_cases hne : a.length = b.length
  · have hb : ((a.length : Int) != (b.length : Int)) = false := by rw [hne]; simp
    have HN := Ho.mk hne
    clear hne
    go_enter Tryd.func53, Tryd.ntmps53
    go_wp2
    go_loopw [5] (fun v wr => ∃ i : Nat, i ≤ a.length ∧ v = .int .i64 i ∧ Ho (∀ j, j < i → nth a j = nth b j) ∧ Ho (∃ k, wr = w.drewN k)) (fun v _ => a.length - (intOf v).toNat)
    case atStart => exact ⟨0, Nat.zero_le _, rfl, ⟨fun j hj => by omega⟩, ⟨0, rfl⟩⟩
    case round =>
      obtain ⟨i, hi, rfl, he, hw⟩ := hrel
      obtain ⟨kw, hw⟩ := hw.out
      subst hw
      rcases Nat.lt_or_ge i a.length with hlt | hge
      · obtain ⟨a0, rfl, x0⟩ := h0.cell i hlt
        obtain ⟨a1, rfl, x1⟩ := h1.cell i (by have := HN.out; omega)
        have hm1 : (i : Int) < b.length := by have := HN.out; omega
        by_cases hq : nth a i = nth b i
        · have he' : Ho (∀ j, j < i + 1 → nth a j = nth b j) := ⟨fun j hj => by
            rcases Nat.lt_or_eq_of_le (Nat.lt_succ_iff.1 hj) with h | h
            · exact he.out j h
            · rw [h]; exact hq⟩
          have hqb : (nth a i != nth b i) = false := by rw [hq]; simp
          clear hq he
          go_wp2
          go_quiet (fail)
          go_wp2
          go_roundw
          case rel => exact ⟨i + 1, by omega, by simp, he', ⟨_, rfl⟩⟩
          case measure => simp [intOf]; omega
        · have hs : Ho (sameB a b = false) := ⟨by simp only [sameB]; exact decide_eq_false (fun e => hq (by rw [e]))⟩
          have hqb : (nth a i != nth b i) = true := bne_iff_ne.mpr hq
          clear hq he
          go_wp2
          go_quiet (fail)
          go_wp2
          go_ret
          exact ⟨by rw [hs.out]; rfl, _, (World.drewN_drewN _ _ _)⟩
      · obtain rfl : i = a.length := by omega
        have hs : Ho (sameB a b = true) := ⟨by simp only [sameB]; exact decide_eq_true (nth_ext HN.out he.out)⟩
        clear he
        go_wp2
        go_ret
        exact ⟨by rw [hs.out]; rfl, _, rfl⟩
  · have hs : Ho (sameB a b = false) := ⟨by simp only [sameB]; exact decide_eq_false (fun e => hne (by rw [e]))⟩
    have hb : ((a.length : Int) != (b.length : Int)) = true := by rw [bne_iff_ne]; omega
    clear hne
    go_enter Tryd.func53, Tryd.ntmps53
    go_wp2
    go_ret
    exact ⟨by rw [hs.out]; rfl, 0, rfl⟩

theorem digs_step {m : Nat} (h : 0 < m) (d : List Int) (N : Nat) (e : d ++ digs m = digs N) : (d ++ [((m : Int) % 16777216)]) ++ digs (m / 16777216) = digs N := by
  rw [← e, List.append_assoc, digs_pos (show m ≠ 0 by omega)]; rfl
theorem digs_len_i64 {N : Nat} (h : N < 9223372036854775808) : (digs N).length ≤ 3 := digs_len_le.2 (Nat.lt_of_lt_of_le h (by decide))
/-- Where a row that grows stands. -/
theorem ofLoop {d : List Int} {m N : Nat} (e : d ++ digs m = digs N) (h : N < 9223372036854775808) : d.length ≤ 3 ∧ m ≤ N := by
  have h1 := digs_len_i64 h
  rw [← e, List.length_append] at h1
  refine ⟨by omega, ?_⟩
  have h2 := congrArg val e
  rw [val_append, digs_val, digs_val] at h2
  have hl : Lims d := fun x hx => (digs_can N).1 x (by rw [← e]; exact List.mem_append_left _ hx)
  have h3 := val_nonneg hl
  have h4 : (1 : Int) ≤ 16777216 ^ d.length := Int.le_of_lt_add_one (by have := Int.pow_pos (n := 16777216) (m := d.length) (by decide); omega)
  have h5 : (m : Int) ≤ 16777216 ^ d.length * m := by
    have := Int.mul_le_mul_of_nonneg_right h4 (show (0 : Int) ≤ m by omega); omega
  omega

set_option maxHeartbeats 400000 in
theorem refOf_calls (n : Int) (N : Nat) (w : World) (hN : N = n.toNat) (h1 : n ≤ 9223372036854775807) :
    Calls Tryd.prog 49 #[.int .i64 n] w fun e w' => ∃ A c, e = .returned (.slice A (digs N).length c) ∧ (digs N).length ≤ c ∧ Rd w' A (digs N) ∧ Bel w w' := by
  have HN := Ho.mk hN
  clear hN
  go_enter Tryd.func49, Tryd.ntmps49
  go_wp2
  go_loopw [0, 3] (fun v0 v3 wr => ∃ (x : Int) (d : List Int), x ≤ 9223372036854775807 ∧ v0 = .int .i64 x ∧ Ho (d ++ digs x.toNat = digs N) ∧ Ho (Own wr w.heap.size 3 1 v3 d.length (ints d)) ∧ Ho (Bel w wr)) (fun v0 _ _ => (intOf v0).toNat)
  case atStart => exact ⟨n, [], h1, rfl, ⟨by rw [HN.out]; rfl⟩, ⟨Own.nil _ _ _ _⟩, ⟨Bel.refl _⟩⟩
  case round =>
    obtain ⟨x, d, hx, rfl, he, ho, hb⟩ := hrel
    rcases Int.lt_or_le 0 x with h0 | h0
    · obtain ⟨m, rfl⟩ := Int.eq_ofNat_of_zero_le (Int.le_of_lt h0)
      have hlen := ofLoop he.out (by have := HN.out; omega)
      have hd3 := hlen.1
      rw [Int.toNat_natCast] at he
      clear hlen
      go_wp2_with (at_builtin; (refine wpList_app _ rfl (.tmp 6) (.tmp 9) 22 rfl w.heap.size 3 (.int .i64 0) 8 Tryd.underlying22 info3 rfl _ d.length (ints d) _ rfl ho.out rfl rfl (by omega) (by omega) hb.out.size ?_); intro v w1 hv hb1)
      go_roundw
      case rel =>
        refine ⟨(m : Int) / 16777216, d ++ [(m : Int) % 16777216], by omega, rfl, ⟨?_⟩, ⟨?_⟩, ⟨⟨hb.out.out.trans hb1⟩⟩⟩
        · rw [show ((m : Int) / 16777216).toNat = m / 16777216 from by omega]
          exact digs_step (by omega) d N he.out
        · rw [List.length_append, List.length_singleton]
          have e : ints (d ++ [(m : Int) % 16777216]) = ints d ++ [.int .i64 ((m : Int) % 16777216)] := by simp [ints]
          rw [e]; exact hv
      case measure => simp [intOf]; omega
    · have e : Ho (d = digs N) := ⟨by have := he.out; rwa [show x.toNat = 0 from by omega, digs_zero, List.append_nil] at this⟩
      obtain ⟨A, c, rfl, hc, hr⟩ := ho.out.rd (by have := (ofLoop he.out (by have := HN.out; omega)).1; omega)
      have HR := Ho.mk hr
      clear hr he
      go_wp2
      go_ret
      rw [← e.out]
      exact ⟨A, c, rfl, hc, HR.out, hb.out⟩
set_option maxHeartbeats 400000 in
theorem natOf_calls (n : Int) (N : Nat) (w : World) (hN : N = n.toNat) (h1 : n ≤ 9223372036854775807) :
    Calls Tryd.prog 65 #[.int .i64 n] w fun e w' => ∃ A c, e = .returned (.slice A (digs N).length c) ∧ (digs N).length ≤ c ∧ Rd w' A (digs N) ∧ Bel w w' := by
  have HN := Ho.mk hN
  clear hN
  go_enter Tryd.func65, Tryd.ntmps65
  go_wp2
  go_loopw [0, 3] (fun v0 v3 wr => ∃ (x : Int) (d : List Int), x ≤ 9223372036854775807 ∧ v0 = .int .i64 x ∧ Ho (d ++ digs x.toNat = digs N) ∧ Ho (Own wr w.heap.size 3 1 v3 d.length (ints d)) ∧ Ho (Bel w wr)) (fun v0 _ _ => (intOf v0).toNat)
  case atStart => exact ⟨n, [], h1, rfl, ⟨by rw [HN.out]; rfl⟩, ⟨Own.nil _ _ _ _⟩, ⟨Bel.refl _⟩⟩
  case round =>
    obtain ⟨x, d, hx, rfl, he, ho, hb⟩ := hrel
    rcases Int.lt_or_le 0 x with h0 | h0
    · obtain ⟨m, rfl⟩ := Int.eq_ofNat_of_zero_le (Int.le_of_lt h0)
      have hlen := ofLoop he.out (by have := HN.out; omega)
      have hd3 := hlen.1
      rw [Int.toNat_natCast] at he
      clear hlen
      go_wp2_with (at_builtin; (refine wpList_app _ rfl (.tmp 8) (.tmp 11) 22 rfl w.heap.size 3 (.int .i64 0) 8 Tryd.underlying22 info3 rfl _ d.length (ints d) _ rfl ho.out rfl rfl (by omega) (by omega) hb.out.size ?_); intro v w1 hv hb1)
      rw [i64_mask24] at hv
      go_roundw
      case rel =>
        refine ⟨(m : Int) / 16777216, d ++ [(m : Int) % 16777216], by omega, rfl, ⟨?_⟩, ⟨?_⟩, ⟨⟨hb.out.out.trans hb1⟩⟩⟩
        · rw [show ((m : Int) / 16777216).toNat = m / 16777216 from by omega]
          exact digs_step (by omega) d N he.out
        · rw [List.length_append, List.length_singleton]
          have e : ints (d ++ [(m : Int) % 16777216]) = ints d ++ [.int .i64 ((m : Int) % 16777216)] := by simp [ints]
          rw [e]; exact hv
      case measure => simp [intOf]; omega
    · have e : Ho (d = digs N) := ⟨by have := he.out; rwa [show x.toNat = 0 from by omega, digs_zero, List.append_nil] at this⟩
      obtain ⟨A, c, rfl, hc, hr⟩ := ho.out.rd (by have := (ofLoop he.out (by have := HN.out; omega)).1; omega)
      have HR := Ho.mk hr
      clear hr he
      go_wp2
      go_ret
      rw [← e.out]
      exact ⟨A, c, rfl, hc, HR.out, hb.out⟩
end Go.Proofs.YtnmjnjhijcnbcaaDoor.R2
