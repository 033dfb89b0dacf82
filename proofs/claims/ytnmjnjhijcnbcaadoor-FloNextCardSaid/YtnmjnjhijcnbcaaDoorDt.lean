/-
  The table of trailing zeros; math/bits.TrailingZeros64.
-/
import Derived.Test.YtnmjnjhijcnbcaaDoorD7
import Derived.Outline
set_option linter.unusedVariables false
set_option linter.unusedSimpArgs false
namespace Go.Proofs.YtnmjnjhijcnbcaaDoor.Dt
open Go Go.RowKit Go.Proofs.YtnmjnjhijcnbcaaDoor Go.Proofs.YtnmjnjhijcnbcaaDoor.Ow Go.Proofs.YtnmjnjhijcnbcaaDoor.Pl Go.Proofs.YtnmjnjhijcnbcaaDoor.Dp

/-- The table's numbers. -/
def deB : List Nat := [0, 1, 56, 2, 57, 49, 28, 3, 61, 58, 42, 50, 38, 29, 17, 4, 62, 47, 59, 36, 45, 43, 51, 22, 53, 39, 33, 30, 24, 18, 12, 5, 63, 55, 48, 27, 60, 41, 37, 16, 46, 35, 44, 21, 52, 32, 23, 11, 54, 26, 40, 15, 34, 20, 31, 10, 25, 14, 19, 9, 13, 8, 7, 6]
/-- The table lies where it is laid. -/
structure Tab (w : World) : Prop where
  cell : ∀ i, i < 64 → w.cell? ⟨2, i, none⟩ = some (.int .u8 (deB.getD i 0 : Nat))
theorem Tab.bel {w w' : World} (h : Tab w) (b : Bel w w') : Tab w' := ⟨fun i hi => b.cell (h.cell i hi)⟩

theorem and_low {j m : Nat} (hm : m % 2 = 1) (hlt : m < 2 ^ j) : m &&& (2 ^ j - m) = 1 := by
  apply Nat.eq_of_testBit_eq
  intro i
  have h1 : (2 ^ j - m).testBit i = (decide (i < j) && !(m - 1).testBit i) := by
    have := Nat.testBit_two_pow_sub_succ (show m - 1 < 2 ^ j by omega) i
    rwa [show m - 1 + 1 = m from by omega] at this
  rw [Nat.testBit_and, h1]
  cases i with
  | zero =>
    have hj : 0 < j := by
      rcases Nat.eq_zero_or_pos j with h | h
      · subst h; simp at hlt; omega
      · exact h
    rw [Nat.testBit_zero, Nat.testBit_zero, Nat.testBit_zero, decide_eq_true hm, decide_eq_true hj, decide_eq_false (show ¬ (m - 1) % 2 = 1 by omega)]
    rfl
  | succ i =>
    rw [Nat.testBit_succ, Nat.testBit_succ, show (m - 1) / 2 = m / 2 from by omega, Nat.testBit_succ]
    have : (1 / 2 : Nat).testBit i = false := by simp
    rw [this]
    cases (m / 2).testBit i <;> simp
theorem and_neg {x : Nat} (h0 : x ≠ 0) (h : x < 2 ^ 64) : x &&& (2 ^ 64 - x) = 2 ^ tz x := by
  have e := odd_eq x
  have hk : tz x ≤ 64 := by
    have h2 : 2 ^ tz x ≤ x := by
      have hp := odd_pos h0
      have := Nat.mul_le_mul_right (2 ^ tz x) (show 1 ≤ odd x by omega)
      omega
    exact Nat.le_of_lt ((Nat.pow_lt_pow_iff_right (by decide : 1 < 2)).1 (Nat.lt_of_le_of_lt h2 h))
  have hp := Nat.two_pow_pos (tz x)
  have hlt : odd x < 2 ^ (64 - tz x) := by
    have : odd x * 2 ^ tz x < 2 ^ (64 - tz x) * 2 ^ tz x := by rw [e, ← Nat.pow_add, Nat.sub_add_cancel hk]; exact h
    exact Nat.lt_of_mul_lt_mul_right this
  have e2 : 2 ^ 64 - x = (2 ^ (64 - tz x) - odd x) <<< tz x := by
    rw [Nat.shiftLeft_eq, Nat.sub_mul, ← Nat.pow_add, Nat.sub_add_cancel hk, e]
  have e3 : x = odd x <<< tz x := by rw [Nat.shiftLeft_eq, e]
  conv => lhs; rw [e2]; arg 1; rw [e3]
  rw [← Nat.shiftLeft_and_distrib, and_low (odd_odd h0) hlt, Nat.shiftLeft_eq, Nat.one_mul]
theorem deb_at : ∀ k : Fin 24, 2 ^ k.1 * 285870213051353865 % 18446744073709551616 / 288230376151711744 < 64 ∧ deB.getD (2 ^ k.1 * 285870213051353865 % 18446744073709551616 / 288230376151711744) 0 = k.1 := by decide +kernel
theorem wrap_u64 (z : Int) : IntKind.u64.wrap z = z % 18446744073709551616 := by
  simp [IntKind.wrap, IntKind.bits, IntKind.signed]
theorem and_u64 {x : Nat} (h0 : x ≠ 0) (h : x < 16777216) : bits .and .u64 (x : Int) (IntKind.u64.wrap (-(x : Int))) = ((2 ^ tz x : Nat) : Int) := by
  have e1 : IntKind.u64.wrap (-(x : Int)) = ((2 ^ 64 - x : Nat) : Int) := by rw [wrap_u64]; omega
  rw [e1]
  show IntKind.u64.wrap ((BitVec.ofInt 64 (x : Int) &&& BitVec.ofInt 64 ((2 ^ 64 - x : Nat) : Int)).toNat : Nat) = _
  rw [BitVec.toNat_and, BitVec.ofInt_natCast, BitVec.ofInt_natCast, BitVec.toNat_ofNat, BitVec.toNat_ofNat, Nat.mod_eq_of_lt (by omega), Nat.mod_eq_of_lt (by omega), and_neg h0 (by omega), wrap_u64]
  have : 2 ^ tz x ≤ x := by
    have hp := odd_pos h0
    have h1 := Nat.mul_le_mul_right (2 ^ tz x) (show 1 ≤ odd x by omega)
    have h2 := odd_eq x
    omega
  clear e1
  generalize 2 ^ tz x = y at *
  omega
theorem tz_small {x : Nat} (h0 : x ≠ 0) (h : x < 16777216) : tz x < 24 := by
  have hp := odd_pos h0
  have h1 := Nat.mul_le_mul_right (2 ^ tz x) (show 1 ≤ odd x by omega)
  have h2 := odd_eq x
  exact (Nat.pow_lt_pow_iff_right (by decide : 1 < 2)).1 (show 2 ^ tz x < 2 ^ 24 by omega)

set_option maxRecDepth 100000 in
theorem tz64_calls (x : Nat) (w : World) (h0 : x ≠ 0) (h : x < 16777216) (T : Tab w) : Calls Tryd.prog 95 #[.int .u64 x] w fun e w' => e = .returned (.int .i64 (tz x)) ∧ w = w' := by
  have hb : ((x : Int) == 0) = false := beq_eq_false_iff_ne.mpr (by omega)
  have ht := tz_small h0 h
  obtain ⟨r, hr, hrlt, c⟩ : ∃ r : Nat, IntKind.u64.wrap (((2 ^ tz x : Nat) : Int) * 285870213051353865) / 288230376151711744 = (r : Int) ∧ r < 64 ∧ w.cell? ⟨2, r, none⟩ = some (.int .u8 (tz x)) := by
    obtain ⟨d1, d2⟩ := deb_at ⟨tz x, ht⟩
    refine ⟨_, ?_, d1, by rw [T.cell _ d1, d2]⟩
    rw [wrap_u64]
    generalize 2 ^ tz x = y
    show _ = ((y * 285870213051353865 % 18446744073709551616 / 288230376151711744 : Nat) : Int)
    omega
  obtain ⟨n, hn⟩ : ∃ n, IntKind.u64.wrap (-(x : Int)) = n := ⟨_, rfl⟩
  obtain ⟨p, hp⟩ : ∃ p, bits .and .u64 (x : Int) n = p := ⟨_, rfl⟩
  have hp2 : p = ((2 ^ tz x : Nat) : Int) := by rw [← hp, ← hn]; exact and_u64 h0 h
  rw [← hp2] at hr
  obtain ⟨q, hq⟩ : ∃ q, IntKind.u64.wrap (p * 285870213051353865) = q := ⟨_, rfl⟩
  rw [hq] at hr
  generalize tz x = t at *
  clear hp2 h h0
  have hr1 : (r : Int) < 64 := by omega
  have hr0 : (0 : Int) ≤ (r : Int) := by omega
  go_enter Tryd.func95, Tryd.ntmps95
  go_wp2
  go_ret
  exact ⟨rfl, rfl⟩
theorem tz_calls (x : Nat) (w : World) (h0 : x ≠ 0) (h : x < 16777216) (T : Tab w) : Calls Tryd.prog 70 #[.int .u64 x] w fun e w' => e = .returned (.int .i64 (tz x)) ∧ w = w' := by
  go_enter Tryd.func70, Tryd.ntmps70
  go_wp2_with (go_at_call 95; (with_reducible refine (tz64_calls _ _ h0 h T).mono ?_); rintro e w' ⟨rfl, rfl⟩)
  go_ret
  exact ⟨rfl, rfl⟩
end Go.Proofs.YtnmjnjhijcnbcaaDoor.Dt
