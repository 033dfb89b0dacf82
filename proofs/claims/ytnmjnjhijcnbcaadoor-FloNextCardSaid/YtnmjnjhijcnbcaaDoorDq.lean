/-
  Plain laws of dyadic numbers, continued: how far sums, products, shifts reach; order; cuts.
-/
import Derived.Test.YtnmjnjhijcnbcaaDoorDp
set_option linter.unusedVariables false
namespace Go.Proofs.YtnmjnjhijcnbcaaDoor.Dp
open Go Go.RowKit Go.Proofs.YtnmjnjhijcnbcaaDoor.Ow Go.Proofs.YtnmjnjhijcnbcaaDoor.Pl

theorem tz_ge {x y j : Nat} (h : x = y * 2 ^ j) (h0 : x ≠ 0) : j ≤ tz x := by
  subst h
  rw [tz_shift _ (fun e => h0 (by rw [e, Nat.zero_mul]))]; omega
/-- What a number's reach downwards says. -/
theorem Wd.dvd {v : Int} {L U : Nat} (h : Wd v L U) (hL : L ≤ K) : ∃ y : Int, v = y * 2 ^ (K - L) := by
  by_cases h0 : v = 0
  · exact ⟨0, by rw [h0, Int.zero_mul]⟩
  · have h1 := h.e_ge
    unfold de at h1; rw [if_neg h0] at h1
    obtain ⟨d, hd⟩ : ∃ d, tz v.natAbs = (K - L) + d := ⟨tz v.natAbs - (K - L), by omega⟩
    have e := odd_eq v.natAbs
    rw [hd, Nat.add_comm, Nat.pow_add, ← Nat.mul_assoc] at e
    generalize odd v.natAbs * 2 ^ d = q at e
    have e' : (q : Int) * 2 ^ (K - L) = (v.natAbs : Int) := by
      rw [← e, Int.natCast_mul, Int.natCast_pow]; rfl
    by_cases hn : v < 0
    · exact ⟨-q, by rw [Int.neg_mul, e']; omega⟩
    · exact ⟨q, by rw [e']; omega⟩
theorem wd_of {v y : Int} {L U : Nat} (hv : v = y * 2 ^ (K - L)) (hU : v.natAbs < 2 ^ (K + U)) : Wd v L U := by
  refine ⟨?_, hU⟩
  by_cases h0 : v = 0
  · exact .inl h0
  · right
    have e : v.natAbs = y.natAbs * 2 ^ (K - L) := by rw [hv, Int.natAbs_mul, Int.natAbs_pow]; rfl
    have := tz_ge e (by omega)
    unfold de; rw [if_neg h0]; omega
theorem Wd.add {u v : Int} {L U L' U' : Nat} (h : Wd u L U) (k : Wd v L' U') (hL : L + L' ≤ K) : Wd (u + v) (L + L') (U + U' + 1) := by
  obtain ⟨y, hy⟩ := (h.mono (Nat.le_add_right L L') (Nat.le_refl _)).dvd hL
  obtain ⟨z, hz⟩ := (k.mono (Nat.le_add_left L' L) (Nat.le_refl _)).dvd hL
  refine wd_of (y := y + z) (by rw [Int.add_mul, ← hy, ← hz]) ?_
  have h1 := (h.mono (Nat.le_refl _) (Nat.le_add_right U U')).up
  have h2 := (k.mono (Nat.le_refl _) (Nat.le_add_left U' U)).up
  rw [show K + (U + U' + 1) = K + (U + U') + 1 from by omega, Nat.pow_succ]
  omega
theorem two_pos (k : Nat) : (0 : Int) < 2 ^ k := Int.pow_pos (by decide)
theorem Wd.mul {a b c : Int} {L U L' U' : Nat} (h : Wd a L U) (k : Wd b L' U') (hc : c * 2 ^ K = a * b) (hL : L + L' ≤ K) : Wd c (L + L') (U + U') := by
  obtain ⟨y, hy⟩ := h.dvd (by omega)
  obtain ⟨z, hz⟩ := k.dvd (by omega)
  refine wd_of (y := y * z) ?_ ?_
  · have e : c * 2 ^ K = y * z * 2 ^ (K - (L + L')) * 2 ^ K := by
      rw [hc, hy, hz, Int.mul_assoc (y * z), ← Int.pow_add, show K - (L + L') + K = (K - L) + (K - L') from by omega, Int.pow_add]
      ac_rfl
    exact Int.eq_of_mul_eq_mul_right (Int.ne_of_gt (two_pos K)) e
  · have e : c.natAbs * 2 ^ K = a.natAbs * b.natAbs := by
      have := congrArg Int.natAbs hc
      rw [Int.natAbs_mul, Int.natAbs_mul, Int.natAbs_pow, show (2 : Int).natAbs = 2 from rfl] at this
      exact this
    have h1 := Nat.mul_lt_mul'' h.up k.up
    rw [← e, ← Nat.pow_add, show K + U + (K + U') = (K + (U + U')) + K from by omega, Nat.pow_add] at h1
    exact Nat.lt_of_mul_lt_mul_right h1
/-- The product at the scale. -/
def mulD (a b : Int) : Int := a * b / 2 ^ K
theorem mulD_eq {a b : Int} {L U L' U' : Nat} (h : Wd a L U) (k : Wd b L' U') (hL : L + L' ≤ K) : mulD a b * 2 ^ K = a * b := by
  obtain ⟨y, hy⟩ := h.dvd (by omega)
  obtain ⟨z, hz⟩ := k.dvd (by omega)
  have e : a * b = y * z * 2 ^ (K - (L + L')) * 2 ^ K := by
    rw [hy, hz, Int.mul_assoc (y * z), ← Int.pow_add, show K - (L + L') + K = (K - L) + (K - L') from by omega, Int.pow_add]
    ac_rfl
  unfold mulD
  rw [e, Int.mul_ediv_cancel _ (Int.ne_of_gt (two_pos K))]
theorem scale_inj {a b : Int} (h : a * 2 ^ K = b * 2 ^ K) : a = b := Int.eq_of_mul_eq_mul_right (Int.ne_of_gt (two_pos K)) h
theorem Wd.shl {v : Int} {L U : Nat} (h : Wd v L U) (k : Nat) (hL : L ≤ K) : Wd (v * 2 ^ k) L (U + k) := by
  obtain ⟨y, hy⟩ := h.dvd hL
  refine wd_of (y := y * 2 ^ k) (by conv => lhs; rw [hy]
                                    ac_rfl) ?_
  rw [Int.natAbs_mul, Int.natAbs_pow, ← Nat.add_assoc, Nat.pow_add]
  exact Nat.mul_lt_mul_of_pos_right h.up (Nat.two_pow_pos k)
theorem Wd.shr {v w : Int} {L U : Nat} (h : Wd v L U) {k : Nat} (hw : w * 2 ^ k = v) (hL : L + k ≤ K) : Wd w (L + k) U := by
  obtain ⟨y, hy⟩ := h.dvd (by omega)
  refine wd_of (y := y) ?_ ?_
  · have e : w * 2 ^ k = y * 2 ^ (K - (L + k)) * 2 ^ k := by
      rw [hw, hy, Int.mul_assoc, ← Int.pow_add, show K - (L + k) + k = K - L from by omega]
    exact Int.eq_of_mul_eq_mul_right (Int.ne_of_gt (two_pos k)) e
  · have e : w.natAbs * 2 ^ k = v.natAbs := by
      have := congrArg Int.natAbs hw
      rw [Int.natAbs_mul, Int.natAbs_pow] at this; exact this
    have h1 := h.up
    have h2 : w.natAbs * 1 ≤ w.natAbs * 2 ^ k := Nat.mul_le_mul_left _ Nat.one_le_two_pow
    omega
/-- A sign, a natural, a power: how far they reach. -/
theorem wd_sc (neg : Bool) {x b : Nat} {e : Int} {L U : Nat} (hx : x < 2 ^ b) (he : -(L : Int) ≤ e) (hU : e + b ≤ U) (hL : L ≤ K) : Wd (sc neg x e) L U := by
  by_cases h0 : x = 0
  · subst h0; rw [sc_zero]; exact Wd.zero _ _
  · refine ⟨.inr ?_, ?_⟩
    · rw [sc_e h0 (by omega)]; omega
    · rw [sc_abs]
      have h1 : x * 2 ^ (e + K).toNat < 2 ^ b * 2 ^ (e + K).toNat := Nat.mul_lt_mul_of_pos_right hx (Nat.two_pow_pos _)
      rw [← Nat.pow_add] at h1
      exact Nat.lt_of_lt_of_le h1 (Nat.pow_le_pow_right (by decide) (by omega))
/-- Which side of 0. -/
def sgn (v : Int) : Int := cmpI v 0
theorem sgn_sub (a b : Int) : sgn (a + -b) = cmpI a b := by
  unfold sgn cmpI
  by_cases h : a < b
  · rw [if_pos (by omega), if_pos h]
  · rw [if_neg (by omega), if_neg h]
    by_cases h2 : b < a
    · rw [if_pos (by omega), if_pos h2]
    · rw [if_neg (by omega), if_neg h2]
theorem sgn_neg (v : Int) : sgn (-v) = - sgn v := by
  unfold sgn cmpI
  rcases Int.lt_trichotomy v 0 with h | h | h
  · rw [if_neg (by omega), if_pos (by omega), if_pos h]; rfl
  · subst h; rfl
  · rw [if_pos (by omega), if_neg (by omega), if_pos h]
end Go.Proofs.YtnmjnjhijcnbcaaDoor.Dp
