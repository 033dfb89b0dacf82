/-
  Plain laws of numbers, for layer 2's laws.
-/
import Derived.Test.YtnmjnjhijcnbcaaDoorF1
set_option linter.unusedVariables false
namespace Go.Proofs.YtnmjnjhijcnbcaaDoor.F4
open Go Go.RowKit Go.Proofs.YtnmjnjhijcnbcaaDoor Go.Proofs.YtnmjnjhijcnbcaaDoor.Ow Go.Proofs.YtnmjnjhijcnbcaaDoor.Pl Go.Proofs.YtnmjnjhijcnbcaaDoor.Dp Go.Proofs.YtnmjnjhijcnbcaaDoor.F1

theorem mulD_comm (a b : Int) : mulD a b = mulD b a := by unfold mulD; rw [Int.mul_comm]
theorem mulD_one (a : Int) : mulD a (2 ^ K) = a := by
  unfold mulD; rw [Int.mul_ediv_cancel _ (Int.ne_of_gt (two_pos K))]
section
variable {a b c : Int} {L U L' U' L'' U'' : Nat}
theorem mulD_assoc' (ha : Wd a L U) (hb : Wd b L' U') (hc : Wd c L'' U'') (hL : L + L' + L'' ≤ 20000) : mulD (mulD a b) c = mulD a (mulD b c) := by
  have h1 := wd_mulD ha hb (by omega)
  have h2 := wd_mulD hb hc (by omega)
  apply scale_inj
  rw [mulD_eq h1 hc (by unfold K; omega), mulD_eq ha h2 (by unfold K; omega)]
  apply scale_inj
  rw [Int.mul_right_comm, mulD_eq ha hb (by unfold K; omega), Int.mul_assoc a (mulD b c), mulD_eq hb hc (by unfold K; omega), Int.mul_assoc]
theorem mulD_add' (ha : Wd a L U) (hb : Wd b L' U') (hc : Wd c L'' U'') (hL : L + L' + L'' ≤ 20000) : mulD (a + b) c = mulD a c + mulD b c := by
  have h1 := ha.add hb (by unfold K; omega)
  apply scale_inj
  rw [mulD_eq h1 hc (by unfold K; omega), Int.add_mul, Int.add_mul, mulD_eq ha hc (by unfold K; omega), mulD_eq hb hc (by unfold K; omega)]
theorem mulD_assoc (ha : Wd a 200 392) (hb : Wd b 200 392) (hc : Wd c 200 392) : mulD (mulD a b) c = mulD a (mulD b c) := mulD_assoc' ha hb hc (by decide)
theorem mulD_add (ha : Wd a 200 392) (hb : Wd b 200 392) (hc : Wd c 200 392) : mulD (a + b) c = mulD a c + mulD b c := mulD_add' ha hb hc (by decide)
/-- Products and signs. -/
theorem sgn_mulD (ha : Wd a L U) (hb : Wd b L' U') (hL : L + L' ≤ 20000) : sgn (mulD a b) = sgn a * sgn b := by
  have e := mulD_eq ha hb (by unfold K; omega)
  have hp := two_pos K
  unfold sgn cmpI
  rcases Int.lt_trichotomy a 0 with h1 | h1 | h1 <;> rcases Int.lt_trichotomy b 0 with h2 | h2 | h2
  · have h3 : 0 < mulD a b * 2 ^ K := by rw [e]; exact Int.mul_pos_of_neg_of_neg h1 h2
    have h4 := Int.pos_of_mul_pos_left h3 hp
    simp [h1, h2]; omega
  · subst h2
    rw [Int.mul_zero] at e
    have h4 : mulD a 0 = 0 := by unfold mulD; simp
    simp [h4]
  · have h3 : mulD a b * 2 ^ K < 0 := by rw [e]; exact Int.mul_neg_of_neg_of_pos h1 h2
    have h4 : mulD a b < 0 := by
      rcases Int.lt_or_le (mulD a b) 0 with h | h
      · exact h
      · have := Int.mul_nonneg h (Int.le_of_lt hp); omega
    simp [h1, h4, show ¬ b < 0 by omega, h2]
  · subst h1
    have h4 : mulD 0 b = 0 := by unfold mulD; simp
    simp [h4]
  · subst h1
    have h4 : mulD 0 b = 0 := by unfold mulD; simp
    simp [h4]
  · subst h1
    have h4 : mulD 0 b = 0 := by unfold mulD; simp
    simp [h4]
  · have h3 : mulD a b * 2 ^ K < 0 := by rw [e]; exact Int.mul_neg_of_pos_of_neg h1 h2
    have h4 : mulD a b < 0 := by
      rcases Int.lt_or_le (mulD a b) 0 with h | h
      · exact h
      · have := Int.mul_nonneg h (Int.le_of_lt hp); omega
    simp [h2, h4, show ¬ a < 0 by omega, h1]
  · subst h2
    have h4 : mulD a 0 = 0 := by unfold mulD; simp
    simp [h4]
  · have h3 : 0 < mulD a b * 2 ^ K := by rw [e]; exact Int.mul_pos h1 h2
    have h4 := Int.pos_of_mul_pos_left h3 hp
    simp [show ¬ a < 0 by omega, show ¬ b < 0 by omega, show ¬ mulD a b < 0 by omega, h1, h2, h4]
end
theorem cmp_swap (a b : Int) : cmpI b a = - cmpI a b := by
  unfold cmpI
  rcases Int.lt_trichotomy a b with h | h | h
  · rw [if_neg (by omega), if_pos h, if_pos h]; rfl
  · subst h; rw [if_neg (by omega), if_neg (by omega)]; rfl
  · rw [if_pos h, if_neg (by omega), if_pos h]
theorem cmp_add (a b c : Int) : cmpI (a + c) (b + c) = cmpI a b := by
  unfold cmpI
  rcases Int.lt_trichotomy a b with h | h | h
  · rw [if_pos (by omega), if_pos h]
  · subst h; rw [if_neg (by omega), if_neg (by omega), if_neg (by omega), if_neg (by omega)]
  · rw [if_neg (by omega), if_pos (by omega), if_neg (by omega), if_pos h]
theorem cmp_neg (a b : Int) : cmpI (-a) (-b) = - cmpI a b := by rw [← cmp_swap]; unfold cmpI; simp only [Int.neg_lt_neg_iff]
theorem cmp_range (a b : Int) : -1 ≤ cmpI a b ∧ cmpI a b ≤ 1 := by unfold cmpI; split <;> (try split) <;> omega
theorem cmp_zero (a b : Int) : (cmpI a b == 0) = decide (a = b) := by
  rcases Int.lt_trichotomy a b with h | h | h
  · rw [cmpI_lt h, decide_eq_false (by omega)]; rfl
  · rw [cmpI_eq h, decide_eq_true h]; rfl
  · rw [cmpI_gt h, decide_eq_false (by omega)]; rfl
theorem cmp_scale (a b : Int) (k : Nat) : cmpI (a * 2 ^ k) (b * 2 ^ k) = cmpI a b := by
  have hp := two_pos k
  rcases Int.lt_trichotomy a b with h | h | h
  · rw [cmpI_lt h, cmpI_lt (Int.mul_lt_mul_of_pos_right h hp)]
  · subst h; rw [cmpI_eq rfl, cmpI_eq rfl]
  · rw [cmpI_gt h, cmpI_gt (Int.mul_lt_mul_of_pos_right h hp)]
end Go.Proofs.YtnmjnjhijcnbcaaDoor.F4
