/-
  Joined texts: Gp, Gq, Gr, G1, G2, G3, G4.
-/
import Ieee.Arith
import Derived.Test.YtnmjnjhijcnbcaaDoorDq
import Derived.Test.YtnmjnjhijcnbcaaDoorN1
import Derived.Laws.Externs
import Derived.Laws.FloatArith
import Derived.Laws.BitsAllLaws
import Derived.Test.YtnmjnjhijcnbcaaDoorF1
import Derived.ChangeKeysEq
set_option linter.unusedVariables false
set_option linter.unusedSimpArgs false
/-
  Plain laws of floats: rungs, their magnitudes; the nearest one; words and their numbers; products.
-/
namespace Go.Proofs.YtnmjnjhijcnbcaaDoor.Gp

/-! ### rungs and their magnitudes, in units of 2^-1074 -/
def bn : Nat := 4503599627370496
theorem bn_eq : bn = 2 ^ 52 := rfl
def infR : Nat := 9218868437227405312
def mag (r : Nat) : Nat := if r < bn then r else (bn + r % bn) * 2 ^ (r / bn - 1)
/-- The rung of a full or a least place: so many units of that place. -/
theorem mag_at (j n : Nat) (h : n ≤ 2 * bn) (hj : j = 0 ∨ bn ≤ n) : mag (j * bn + n) = n * 2 ^ j := by
  have hb : 0 < bn := by decide
  unfold mag
  rcases Nat.lt_or_ge n bn with h1 | h1
  · have : j = 0 := by omega
    subst this
    rw [if_pos (by omega)]; omega
  · rcases Nat.lt_or_ge n (2 * bn) with h2 | h2
    · have e : j * bn + n = (j + 1) * bn + (n - bn) := by rw [Nat.add_mul]; omega
      have e1 : (j * bn + n) % bn = n - bn := by rw [e, Nat.mul_comm, Nat.mul_add_mod, Nat.mod_eq_of_lt (by omega)]
      have e2 : (j * bn + n) / bn = j + 1 := by rw [e, Nat.mul_comm, Nat.mul_add_div hb, Nat.div_eq_of_lt (by omega)]
      rw [if_neg (by have := Nat.zero_le (j * bn); omega), e1, e2, Nat.add_sub_cancel, show bn + (n - bn) = n from by omega]
    · have hn : n = 2 * bn := by omega
      subst hn
      have e : j * bn + 2 * bn = (j + 2) * bn := by rw [Nat.add_mul]
      have e1 : (j * bn + 2 * bn) % bn = 0 := by rw [e, Nat.mul_mod_left]
      have e2 : (j * bn + 2 * bn) / bn = j + 2 := by rw [e, Nat.mul_div_cancel _ hb]
      rw [if_neg (by have := Nat.zero_le (j * bn); omega), e1, e2, show j + 2 - 1 = j + 1 from by omega, Nat.pow_succ, Nat.add_zero, Nat.mul_comm 2 bn, Nat.mul_assoc, Nat.mul_comm (2 ^ j) 2]
/-- A rung's place and its units. -/
def plc (r : Nat) : Nat := r / bn - 1
def sig (r : Nat) : Nat := if r < bn then r else bn + r % bn
theorem rung_split (r : Nat) : r = plc r * bn + sig r ∧ sig r < 2 * bn ∧ (plc r = 0 ∨ bn ≤ sig r) ∧ mag r = sig r * 2 ^ plc r := by
  have hb : 0 < bn := by decide
  unfold plc sig mag
  split
  · rename_i h
    rw [Nat.div_eq_of_lt h]
    refine ⟨by omega, by omega, .inl (by omega), by simp⟩
  · rename_i h
    have hm := Nat.mod_lt r hb
    have hd := Nat.div_add_mod r bn
    have hq : 1 ≤ r / bn := Nat.div_pos (by omega) hb
    refine ⟨?_, by omega, .inr (by omega), rfl⟩
    obtain ⟨q, hq'⟩ : ∃ q, r / bn = q + 1 := ⟨r / bn - 1, by omega⟩
    rw [hq'] at hd ⊢
    rw [Nat.add_sub_cancel]
    rw [Nat.mul_add, Nat.mul_one, Nat.mul_comm] at hd
    omega
theorem mag_succ (r : Nat) : mag (r + 1) = mag r + 2 ^ plc r := by
  obtain ⟨h1, h2, h3, h4⟩ := rung_split r
  have := mag_at (plc r) (sig r + 1) (by omega) (by omega)
  rw [← Nat.add_assoc, ← h1] at this
  rw [this, h4, Nat.add_mul, Nat.one_mul]
theorem mag_lt_succ (r : Nat) : mag r < mag (r + 1) := by
  rw [mag_succ]; have := Nat.two_pow_pos (plc r); omega
theorem mag_mono {r s : Nat} (h : r < s) : mag r < mag s := by
  induction s with
  | zero => omega
  | succ s ih =>
    rcases Nat.lt_or_eq_of_le (Nat.lt_succ_iff.1 h) with h1 | h1
    · exact Nat.lt_trans (ih h1) (mag_lt_succ s)
    · subst h1; exact mag_lt_succ r
theorem mag_le {r s : Nat} : mag r ≤ mag s ↔ r ≤ s := by
  constructor
  · intro h
    rcases Nat.lt_or_ge s r with h1 | h1
    · have := mag_mono h1; omega
    · exact h1
  · intro h
    rcases Nat.lt_or_eq_of_le h with h1 | h1
    · exact Nat.le_of_lt (mag_mono h1)
    · rw [h1]; exact Nat.le_refl _
theorem mag_lt {r s : Nat} : mag r < mag s ↔ r < s := by
  rw [← Nat.not_le, mag_le, Nat.not_le]
theorem mag_inj {r s : Nat} (h : mag r = mag s) : r = s := Nat.le_antisymm (mag_le.1 (Nat.le_of_eq h)) (mag_le.1 (Nat.le_of_eq h.symm))
theorem mag_zero : mag 0 = 0 := by unfold mag; rw [if_pos (by decide)]

/-! ### the nearest rung -/
/-- r is the rung nearest to X/2^s, of two the even one. -/
structure Rnd (X s r : Nat) : Prop where
  up : 2 * X ≤ (mag r + mag (r + 1)) * 2 ^ s
  upE : 2 * X = (mag r + mag (r + 1)) * 2 ^ s → r % 2 = 0
  dn : 0 < r → (mag (r - 1) + mag r) * 2 ^ s ≤ 2 * X
  dnE : 0 < r → (mag (r - 1) + mag r) * 2 ^ s = 2 * X → r % 2 = 0
theorem Rnd.uniq {X s r t : Nat} (h : Rnd X s r) (k : Rnd X s t) : r = t := by
  have key : ∀ {r t : Nat}, Rnd X s r → Rnd X s t → ¬ r < t := by
    intro r t h k hlt
    have hp := Nat.two_pow_pos s
    have d := k.dn (by omega)
    have u := h.up
    have m1 : mag r ≤ mag (t - 1) := mag_le.2 (by omega)
    have m2 : mag (r + 1) ≤ mag t := mag_le.2 (by omega)
    have m3 : (mag r + mag (r + 1)) * 2 ^ s ≤ (mag (t - 1) + mag t) * 2 ^ s := Nat.mul_le_mul_right _ (by omega)
    have e1 : 2 * X = (mag r + mag (r + 1)) * 2 ^ s := by omega
    have e2 : (mag (t - 1) + mag t) * 2 ^ s = 2 * X := by omega
    have r1 := h.upE e1
    have r2 := k.dnE (by omega) e2
    have e3 : (mag r + mag (r + 1)) * 2 ^ s = (mag (t - 1) + mag t) * 2 ^ s := by omega
    have e4 := Nat.eq_of_mul_eq_mul_right hp e3
    have e5 : mag r = mag (t - 1) := by omega
    have := mag_inj e5
    omega
  rcases Nat.lt_trichotomy r t with h1 | h1 | h1
  · exact absurd h1 (key h k)
  · exact h1
  · exact absurd h1 (key k h)
/-- Rounded halves: n is X / 2^d to the nearest, of two the even one. -/
structure Half (X d n : Nat) : Prop where
  up : 2 * X ≤ (2 * n + 1) * 2 ^ d
  upE : 2 * X = (2 * n + 1) * 2 ^ d → n % 2 = 0
  dn : 0 < n → (2 * n - 1) * 2 ^ d ≤ 2 * X
  dnE : 0 < n → (2 * n - 1) * 2 ^ d = 2 * X → n % 2 = 0
/-- .. makes the nearest rung. -/
theorem rnd_of {X s j n : Nat} (h : Half X (s + j) n) (hj : j = 0 ∨ bn * 2 ^ (s + j) ≤ X) (hn : n ≤ 2 * bn) (hX : j = 0 ∨ bn ≤ n) : Rnd X s (j * bn + n) := by
  have hp := Nat.two_pow_pos s
  have hpj := Nat.two_pow_pos j
  have e0 := mag_at j n hn hX
  have e1 : (n + 1) * 2 ^ j ≤ mag (j * bn + n + 1) := by
    rw [mag_succ, e0, Nat.add_mul, Nat.one_mul]
    refine Nat.add_le_add_left (Nat.pow_le_pow_right (by decide) ?_) _
    unfold plc
    have hb : 0 < bn := by decide
    rcases hX with h0 | h0
    · subst h0; omega
    · have : (j + 1) * bn ≤ j * bn + n := by rw [Nat.add_mul]; omega
      have := (Nat.le_div_iff_mul_le hb).2 this
      omega
  have par : (j * bn + n) % 2 = n % 2 := by
    have : j * bn = 2 * (j * 2251799813685248) := by unfold bn; omega
    omega
  have sp : ∀ a : Nat, a * 2 ^ (s + j) = a * 2 ^ j * 2 ^ s := fun a => by rw [Nat.pow_add, Nat.mul_comm (2 ^ s), Nat.mul_assoc]
  have up1 : (2 * n + 1) * 2 ^ (s + j) ≤ (mag (j * bn + n) + mag (j * bn + n + 1)) * 2 ^ s := by
    rw [sp, e0]
    refine Nat.mul_le_mul_right _ ?_
    have : (2 * n + 1) * 2 ^ j = n * 2 ^ j + (n + 1) * 2 ^ j := by rw [← Nat.add_mul]; congr 1; omega
    omega
  refine ⟨Nat.le_trans h.up up1, fun q => ?_, fun h0 => ?_, fun h0 q => ?_⟩
  · rw [par]; exact h.upE (by have := h.up; omega)
  all_goals
    rcases Nat.eq_zero_or_pos n with hn0 | hn0
    · exfalso
      subst hn0
      rcases hX with h1 | h1
      · subst h1; simp at h0
      · have : 0 < bn := by decide
        omega
  · -- lower half
    rcases Nat.lt_or_ge bn n with hb | hb
    · have e2 : mag (j * bn + n - 1) = (n - 1) * 2 ^ j := by
        rw [Nat.add_sub_assoc hn0]; exact mag_at j (n - 1) (by omega) (.inr (by omega))
      have : (mag (j * bn + n - 1) + mag (j * bn + n)) * 2 ^ s = (2 * n - 1) * 2 ^ (s + j) := by
        rw [sp, e0, e2, ← Nat.add_mul]; congr 2; omega
      rw [this]; exact h.dn hn0
    · rcases Nat.eq_zero_or_pos j with hj0 | hj0
      · subst hj0
        have e2 : mag (0 * bn + n - 1) = n - 1 := by
          have := mag_at 0 (n - 1) (by omega) (.inl rfl)
          rw [Nat.zero_mul, Nat.zero_add, Nat.pow_zero, Nat.mul_one] at this
          rw [Nat.zero_mul, Nat.zero_add]; exact this
        have : (mag (0 * bn + n - 1) + mag (0 * bn + n)) * 2 ^ s = (2 * n - 1) * 2 ^ (s + 0) := by
          rw [e0, e2, Nat.pow_zero, Nat.mul_one, Nat.add_zero]; congr 1; omega
        rw [this]; exact h.dn hn0
      · have hbX : bn * 2 ^ (s + j) ≤ X := by omega
        have hle : mag (j * bn + n - 1) ≤ mag (j * bn + n) := mag_le.2 (by omega)
        have hnb : n = bn := by omega
        subst hnb
        have : (mag (j * bn + bn - 1) + mag (j * bn + bn)) * 2 ^ s ≤ 2 * (bn * 2 ^ (s + j)) := by
          rw [sp, ← Nat.mul_assoc]
          refine Nat.mul_le_mul_right _ ?_
          omega
        omega
  · rcases Nat.lt_or_ge bn n with hb | hb
    · have e2 : mag (j * bn + n - 1) = (n - 1) * 2 ^ j := by
        rw [Nat.add_sub_assoc hn0]; exact mag_at j (n - 1) (by omega) (.inr (by omega))
      have : (mag (j * bn + n - 1) + mag (j * bn + n)) * 2 ^ s = (2 * n - 1) * 2 ^ (s + j) := by
        rw [sp, e0, e2, ← Nat.add_mul]; congr 2; omega
      rw [par]; exact h.dnE hn0 (by omega)
    · rcases Nat.eq_zero_or_pos j with hj0 | hj0
      · subst hj0
        have e2 : mag (0 * bn + n - 1) = n - 1 := by
          have := mag_at 0 (n - 1) (by omega) (.inl rfl)
          rw [Nat.zero_mul, Nat.zero_add, Nat.pow_zero, Nat.mul_one] at this
          rw [Nat.zero_mul, Nat.zero_add]; exact this
        have : (mag (0 * bn + n - 1) + mag (0 * bn + n)) * 2 ^ s = (2 * n - 1) * 2 ^ (s + 0) := by
          rw [e0, e2, Nat.pow_zero, Nat.mul_one, Nat.add_zero]; congr 1; omega
        rw [par]; exact h.dnE hn0 (by omega)
      · exfalso
        have hbX : bn * 2 ^ (s + j) ≤ X := by omega
        have hlt : mag (j * bn + n - 1) < mag (j * bn + n) := mag_lt.2 (by omega)
        have hnb : n = bn := by omega
        subst hnb
        have : (mag (j * bn + bn - 1) + mag (j * bn + bn)) * 2 ^ s < 2 * (bn * 2 ^ (s + j)) := by
          rw [sp, ← Nat.mul_assoc]
          refine Nat.mul_lt_mul_of_pos_right ?_ hp
          omega
        omega
/-! ### halves, rungs, exact numbers -/
theorem Half.scale {X d n : Nat} (h : Half X d n) (a : Nat) : Half (X * 2 ^ a) (d + a) n := by
  have hp := Nat.two_pow_pos a
  have e1 : ∀ b : Nat, b * 2 ^ (d + a) = b * 2 ^ d * 2 ^ a := fun b => by rw [Nat.pow_add, Nat.mul_assoc]
  refine ⟨?_, fun q => ?_, fun h0 => ?_, fun h0 q => ?_⟩
  · rw [e1, ← Nat.mul_assoc]; exact Nat.mul_le_mul_right _ h.up
  · rw [e1, ← Nat.mul_assoc] at q; exact h.upE (Nat.eq_of_mul_eq_mul_right hp q)
  · rw [e1, ← Nat.mul_assoc]; exact Nat.mul_le_mul_right _ (h.dn h0)
  · rw [e1, ← Nat.mul_assoc] at q; exact h.dnE h0 (Nat.eq_of_mul_eq_mul_right hp q)
theorem half_exact (n d : Nat) : Half (n * 2 ^ d) d n := by
  have hp := Nat.two_pow_pos d
  refine ⟨?_, fun q => ?_, fun h0 => ?_, fun h0 q => ?_⟩
  · rw [← Nat.mul_assoc]; exact Nat.mul_le_mul_right _ (by omega)
  · rw [← Nat.mul_assoc] at q; have := Nat.eq_of_mul_eq_mul_right hp q; omega
  · rw [← Nat.mul_assoc]; exact Nat.mul_le_mul_right _ (by omega)
  · rw [← Nat.mul_assoc] at q; have := Nat.eq_of_mul_eq_mul_right hp q; omega
/-- To the nearest whole, of two the even one. -/
def rhe (X d : Nat) : Nat := X / 2 ^ d + (if 2 ^ d < 2 * (X % 2 ^ d) then 1 else if 2 ^ d = 2 * (X % 2 ^ d) then X / 2 ^ d % 2 else 0)
theorem rhe_facts (q r P n : Nat) (hp : 0 < P) (hm : r < P) (hn : n = q + (if P < 2 * r then 1 else if P = 2 * r then q % 2 else 0)) :
    2 * (q * P + r) ≤ (2 * n + 1) * P ∧ (2 * (q * P + r) = (2 * n + 1) * P → n % 2 = 0) ∧ (0 < n → (2 * n - 1) * P ≤ 2 * (q * P + r)) ∧ (0 < n → (2 * n - 1) * P = 2 * (q * P + r) → n % 2 = 0) := by
  have ex : ∀ b : Nat, (2 * b + 1) * P = 2 * (b * P) + P := fun b => by rw [Nat.add_mul, Nat.one_mul, Nat.mul_assoc]
  have ex2 : ∀ b : Nat, (2 * (b + 1) - 1) * P = 2 * (b * P) + P := fun b => by rw [show 2 * (b + 1) - 1 = 2 * b + 1 from by omega, ex]
  have ex3 : ∀ b : Nat, 0 < b → (2 * b - 1) * P + P = 2 * (b * P) := fun b hb => by
    rw [← Nat.succ_mul, show (2 * b - 1).succ = 2 * b from by omega, Nat.mul_assoc]
  by_cases h1 : P < 2 * r
  · rw [if_pos h1] at hn
    subst hn
    refine ⟨?_, fun e => ?_, fun _ => ?_, fun _ e => ?_⟩
    · rw [ex, Nat.add_mul, Nat.one_mul]; omega
    · rw [ex, Nat.add_mul, Nat.one_mul] at e; omega
    · rw [ex2]; omega
    · rw [ex2] at e; omega
  · rw [if_neg h1] at hn
    by_cases h2 : P = 2 * r
    · rw [if_pos h2] at hn
      rcases Nat.mod_two_eq_zero_or_one q with h3 | h3
      · rw [h3, Nat.add_zero] at hn
        subst hn
        refine ⟨by rw [ex]; omega, fun _ => h3, fun h0 => ?_, fun h0 e => h3⟩
        have := ex3 n h0; omega
      · rw [h3] at hn
        subst hn
        refine ⟨?_, fun e => ?_, fun _ => by rw [ex2]; omega, fun _ e => by omega⟩
        · rw [ex, Nat.add_mul, Nat.one_mul]; omega
        · omega
    · rw [if_neg h2, Nat.add_zero] at hn
      subst hn
      refine ⟨by rw [ex]; omega, fun e => ?_, fun h0 => ?_, fun h0 e => ?_⟩
      · rw [ex] at e; omega
      · have := ex3 n h0; omega
      · have := ex3 n h0; omega
theorem half_rhe (X d : Nat) : Half X d (rhe X d) := by
  have hp := Nat.two_pow_pos d
  have hd := Nat.div_add_mod X (2 ^ d)
  have hm := Nat.mod_lt X hp
  have := rhe_facts (X / 2 ^ d) (X % 2 ^ d) (2 ^ d) (rhe X d) hp hm rfl
  rw [Nat.mul_comm (X / 2 ^ d), hd] at this
  exact ⟨this.1, this.2.1, this.2.2.1, this.2.2.2⟩
theorem Half.le {X d n b : Nat} (h : Half X d n) (hb : X ≤ b * 2 ^ d) : n ≤ b := by
  rcases Nat.lt_or_ge b n with h1 | h1
  · have hp := Nat.two_pow_pos d
    have h2 := h.dn (by omega)
    have h3 : (2 * b + 1) * 2 ^ d ≤ (2 * n - 1) * 2 ^ d := Nat.mul_le_mul_right _ (by omega)
    rw [Nat.add_mul, Nat.one_mul, Nat.mul_assoc] at h3
    omega
  · exact h1
theorem Half.ge {X d n b : Nat} (h : Half X d n) (hb : b * 2 ^ d ≤ X) : b ≤ n := by
  rcases Nat.lt_or_ge n b with h1 | h1
  · have hp := Nat.two_pow_pos d
    have h2 := h.up
    have h3 : (2 * n + 1) * 2 ^ d + 2 ^ d ≤ 2 * (b * 2 ^ d) := by
      rw [← Nat.succ_mul, ← Nat.mul_assoc]; exact Nat.mul_le_mul_right _ (by omega)
    omega
  · exact h1
/-- The nearest rung of X / 2^s units. -/
def rung (X s : Nat) : Nat := if X = 0 then 0 else (Nat.log2 X - (52 + s)) * bn + rhe X (s + (Nat.log2 X - (52 + s)))
theorem rung_half {X s n : Nat} (h0 : X ≠ 0) (h : Half X (s + (Nat.log2 X - (52 + s))) n) : Rnd X s ((Nat.log2 X - (52 + s)) * bn + n) := by
  have l1 := Nat.log2_self_le h0
  have l2 := @Nat.lt_log2_self X
  generalize Nat.log2 X = t at *
  have hX : t - (52 + s) = 0 ∨ bn * 2 ^ (s + (t - (52 + s))) ≤ X := by
    rcases Nat.eq_zero_or_pos (t - (52 + s)) with q | q
    · exact .inl q
    · right
      rw [bn_eq, ← Nat.pow_add, show 52 + (s + (t - (52 + s))) = t from by omega]; exact l1
  refine rnd_of h hX (h.le ?_) (hX.imp id (fun q => h.ge q))
  have : 2 * bn * 2 ^ (s + (t - (52 + s))) = 2 ^ (53 + (s + (t - (52 + s)))) := by rw [show 2 * bn = 2 ^ 53 from rfl, ← Nat.pow_add]
  rw [this]
  exact Nat.le_of_lt (Nat.lt_of_lt_of_le l2 (Nat.pow_le_pow_right (by decide) (by omega)))
theorem rnd_zero (s : Nat) : Rnd 0 s 0 := ⟨by omega, fun _ => rfl, fun h => by omega, fun h => by omega⟩
theorem rnd_rung (X s : Nat) : Rnd X s (rung X s) := by
  unfold rung
  split
  · rename_i h; subst h; exact rnd_zero s
  · rename_i h; exact rung_half h (half_rhe _ _)
theorem Rnd.rung {X s r : Nat} (h : Rnd X s r) : rung X s = r := (rnd_rung X s).uniq h
theorem Rnd.scale {X s r : Nat} (h : Rnd X s r) (a : Nat) : Rnd (X * 2 ^ a) (s + a) r := by
  have hp := Nat.two_pow_pos a
  have e1 : ∀ b : Nat, b * 2 ^ (s + a) = b * 2 ^ s * 2 ^ a := fun b => by rw [Nat.pow_add, Nat.mul_assoc]
  refine ⟨?_, fun q => ?_, fun h0 => ?_, fun h0 q => ?_⟩
  · rw [e1, ← Nat.mul_assoc]; exact Nat.mul_le_mul_right _ h.up
  · rw [e1, ← Nat.mul_assoc] at q; exact h.upE (Nat.eq_of_mul_eq_mul_right hp q)
  · rw [e1, ← Nat.mul_assoc]; exact Nat.mul_le_mul_right _ (h.dn h0)
  · rw [e1, ← Nat.mul_assoc] at q; exact h.dnE h0 (Nat.eq_of_mul_eq_mul_right hp q)
theorem rung_scale (X s a : Nat) : rung (X * 2 ^ a) (s + a) = rung X s := ((rnd_rung X s).scale a).rung
theorem rnd_exact (r s : Nat) : Rnd (mag r * 2 ^ s) s r := by
  have hp := Nat.two_pow_pos s
  have h1 := mag_lt_succ r
  refine ⟨?_, fun q => ?_, fun h0 => ?_, fun h0 q => ?_⟩
  · rw [← Nat.mul_assoc]; exact Nat.mul_le_mul_right _ (by omega)
  · rw [← Nat.mul_assoc] at q; have := Nat.eq_of_mul_eq_mul_right hp q; omega
  · have := mag_mono (show r - 1 < r by omega)
    rw [← Nat.mul_assoc]; exact Nat.mul_le_mul_right _ (by omega)
  · have := mag_mono (show r - 1 < r by omega)
    rw [← Nat.mul_assoc] at q; have := Nat.eq_of_mul_eq_mul_right hp q; omega
theorem rung_exact (r s : Nat) : rung (mag r * 2 ^ s) s = r := (rnd_exact r s).rung
theorem rung_mono {X Y s : Nat} (h : X ≤ Y) : rung X s ≤ rung Y s := by
  have hx := rnd_rung X s
  have hy := rnd_rung Y s
  generalize rung X s = r at *
  generalize rung Y s = t at *
  rcases Nat.lt_or_ge t r with h1 | h1
  · exfalso
    have d := hx.dn (by omega)
    have u := hy.up
    have m1 : mag t ≤ mag (r - 1) := mag_le.2 (by omega)
    have m2 : mag (t + 1) ≤ mag r := mag_le.2 (by omega)
    have m3 : (mag t + mag (t + 1)) * 2 ^ s ≤ (mag (r - 1) + mag r) * 2 ^ s := Nat.mul_le_mul_right _ (by omega)
    have e1 : 2 * Y = (mag t + mag (t + 1)) * 2 ^ s := by omega
    have e2 : (mag (r - 1) + mag r) * 2 ^ s = 2 * X := by omega
    have r1 := hy.upE e1
    have r2 := hx.dnE (by omega) e2
    have e3 : (mag t + mag (t + 1)) * 2 ^ s = (mag (r - 1) + mag r) * 2 ^ s := by omega
    have e4 := Nat.eq_of_mul_eq_mul_right (Nat.two_pow_pos s) e3
    have e5 : mag t = mag (r - 1) := by omega
    have := mag_inj e5
    omega
  · exact h1

/-! ### the format's own words -/
open Ieee
theorem signW : double.signWeight = 9223372036854775808 := by decide
theorem infRg : double.infRung = infR := by decide
theorem bnd : double.binade = bn := by decide
theorem least : double.leastPlace = -1074 := by decide
theorem cut_half (neg : Bool) (n d : Nat) : Half n d (Toward.even.cut neg n d) := by
  have key : Toward.even.cut neg n d = rhe n d := by
    unfold Toward.cut rhe
    simp only [Nat.one_shiftLeft]
    rcases Nat.lt_or_ge (n.log2 + 2) d with h | h
    · rw [Nat.min_eq_right (by omega)]
      have hn : n < 2 ^ (n.log2 + 1) := Nat.lt_log2_self
      have h2 : 2 ^ (n.log2 + 2) = 2 * 2 ^ (n.log2 + 1) := by rw [Nat.pow_succ, Nat.mul_comm]
      have h3 : 2 ^ (n.log2 + 2) ≤ 2 ^ d := Nat.pow_le_pow_right (by decide) (by omega)
      have a1 : n / 2 ^ (n.log2 + 2) = 0 := Nat.div_eq_of_lt (by omega)
      have a2 : n % 2 ^ (n.log2 + 2) = n := Nat.mod_eq_of_lt (by omega)
      have a3 : n / 2 ^ d = 0 := Nat.div_eq_of_lt (by omega)
      have a4 : n % 2 ^ d = n := Nat.mod_eq_of_lt (by omega)
      rw [a1, a2, a3, a4, if_neg (by omega)]
      have : decide (2 ^ (n.log2 + 2) < 2 * n) = false := decide_eq_false (by omega)
      rw [this]
      simp
    · rw [Nat.min_eq_left h]
      congr 1
      by_cases h1 : 2 ^ d < 2 * (n % 2 ^ d)
      · simp [h1]
      · by_cases h2 : 2 ^ d = 2 * (n % 2 ^ d)
        · rcases Nat.mod_two_eq_zero_or_one (n / 2 ^ d) with h3 | h3 <;> simp [h3, ← h2]
        · simp [h1, h2]
  rw [key]; exact half_rhe n d
/-- A magnitude in units of 2^-1074, over a power of two. -/
def toX (m : Nat) (p : Int) : Nat := m * 2 ^ (p + 1074).toNat
def toS (p : Int) : Nat := (-1074 - p).toNat
theorem log2_shift (m a : Nat) (h : m ≠ 0) : Nat.log2 (m * 2 ^ a) = Nat.log2 m + a := by
  have hp := Nat.two_pow_pos a
  have h1 := Nat.log2_self_le h
  have h2 := @Nat.lt_log2_self m
  apply (Nat.log2_eq_iff (Nat.mul_ne_zero h (by omega))).2
  refine ⟨by rw [Nat.pow_add]; exact Nat.mul_le_mul_right _ h1, ?_⟩
  rw [show m.log2 + a + 1 = (m.log2 + 1) + a from by omega, Nat.pow_add]
  exact Nat.mul_lt_mul_of_pos_right h2 hp
theorem nearest_rung (neg : Bool) (m : Nat) (p : Int) (h : m ≠ 0) : double.nearest neg m p = double.word neg (min (rung (toX m p) (toS p)) infR) := by
  unfold Format.nearest
  rw [if_neg h, infRg, bnd, least]
  dsimp only
  congr 2
  symm
  apply Rnd.rung
  have hX : toX m p ≠ 0 := by unfold toX; exact Nat.mul_ne_zero h (by have := Nat.two_pow_pos (p + 1074).toNat; omega)
  have hl : Nat.log2 (toX m p) = Nat.log2 m + (p + 1074).toNat := log2_shift _ _ h
  have hj : (max (p + (m.log2 : Int) - (double.fractionBits : Nat)) (-1074) - -1074).toNat = Nat.log2 (toX m p) - (52 + toS p) := by
    rw [hl, show ((double.fractionBits : Nat) : Int) = 52 from rfl]; unfold toS; omega
  rw [hj]
  apply rung_half hX
  obtain ⟨lst, hlst⟩ : ∃ lst : Int, lst = max (p + (m.log2 : Int) - (double.fractionBits : Nat)) (-1074) := ⟨_, rfl⟩
  rw [← hlst] at hj ⊢
  have hl2 : -1074 ≤ lst := by omega
  rw [← hj]
  rcases Int.lt_or_le lst p with hq | hq
  · -- shifted up: exact
    have e1 : (lst - p).toNat = 0 := by omega
    rw [e1, Nat.shiftLeft_eq]
    have hs : toS p = 0 := by unfold toS; omega
    have e2 : Toward.even.cut neg (m * 2 ^ (p - lst).toNat) 0 = m * 2 ^ (p - lst).toNat := by
      have := cut_half neg (m * 2 ^ (p - lst).toNat) 0
      have a := this.le (b := m * 2 ^ (p - lst).toNat) (by simp)
      have b := this.ge (b := m * 2 ^ (p - lst).toNat) (by simp)
      omega
    rw [e2, hs, Nat.zero_add]
    have := half_exact (m * 2 ^ (p - lst).toNat) (lst - -1074).toNat
    have e3 : toX m p = m * 2 ^ (p - lst).toNat * 2 ^ (lst - -1074).toNat := by
      unfold toX; rw [Nat.mul_assoc, ← Nat.pow_add]; congr 2; omega
    rw [e3]; exact this
  · have e1 : (p - lst).toNat = 0 := by omega
    rw [e1, Nat.shiftLeft_eq, Nat.pow_zero, Nat.mul_one]
    have := (cut_half neg m (lst - p).toNat).scale (p + 1074).toNat
    have e2 : (lst - p).toNat + (p + 1074).toNat = toS p + (lst - -1074).toNat := by unfold toS; omega
    rw [e2] at this
    exact this

/-! ### words, their numbers -/
def sgnW : Nat := 9223372036854775808
def fneg (b : Nat) : Bool := decide (sgnW ≤ b)
def frung (b : Nat) : Nat := b % sgnW
def sv (neg : Bool) (m : Nat) : Int := if neg then -(m : Int) else (m : Int)
/-- A word's number in units of 2^-1074 (an infinity's: as if its rung were one more). -/
def V (b : Nat) : Int := sv (fneg b) (mag (frung b))
theorem word_eq (neg : Bool) (r : Nat) : double.word neg r = (if neg then sgnW + r else r) := by
  unfold Format.word; rw [signW]; rfl
theorem word_split {b : Nat} (h : b < 2 * sgnW) : b = double.word (fneg b) (frung b) ∧ frung b < sgnW := by
  have hs : 0 < sgnW := by decide
  refine ⟨?_, Nat.mod_lt _ hs⟩
  rw [word_eq]; unfold fneg frung
  by_cases h1 : sgnW ≤ b
  · rw [decide_eq_true h1, if_pos rfl, Nat.mod_eq_sub_mod h1, Nat.mod_eq_of_lt (by omega)]; omega
  · rw [decide_eq_false h1, if_neg (by decide), Nat.mod_eq_of_lt (by omega)]
theorem word_neg (neg : Bool) {r : Nat} (h : r < sgnW) : fneg (double.word neg r) = neg ∧ frung (double.word neg r) = r := by
  rw [word_eq]
  unfold fneg frung
  cases neg
  · exact ⟨decide_eq_false (by simpa using h), by simpa using Nat.mod_eq_of_lt h⟩
  · exact ⟨decide_eq_true (by simp), by simp [Nat.mod_eq_of_lt h]⟩
theorem V_word (neg : Bool) {r : Nat} (h : r < sgnW) : V (double.word neg r) = sv neg (mag r) := by
  unfold V; rw [(word_neg neg h).1, (word_neg neg h).2]
theorem infR_lt : infR < sgnW := by decide
theorem read_neg {b : Nat} (h : b < 2 * sgnW) : (b / sgnW % 2 == 1) = fneg b := by
  unfold fneg
  have hs : 0 < sgnW := by decide
  by_cases h1 : sgnW ≤ b
  · have : b / sgnW = 1 := by
      apply Nat.div_eq_of_lt_le <;> omega
    rw [this, decide_eq_true h1]; rfl
  · rw [Nat.div_eq_of_lt (by omega), decide_eq_false h1]; rfl
theorem read_fin {b : Nat} (h : b < 2 * sgnW) (hr : frung b < infR) : double.read b = .number (fneg b) (sig (frung b)) ((plc (frung b) : Int) - 1074) := by
  unfold Format.read
  rw [signW, bnd, infRg, least]
  simp only [show (9223372036854775808 : Nat) = sgnW from rfl, read_neg h, show b % sgnW = frung b from rfl]
  unfold sig plc
  by_cases h1 : frung b < bn
  · rw [if_pos h1, if_pos h1, Nat.div_eq_of_lt h1]; rfl
  · rw [if_neg h1, if_pos hr, if_neg h1]
    congr 1
theorem read_inf {b : Nat} (h : b < 2 * sgnW) (hr : frung b = infR) : double.read b = .infinity (fneg b) := by
  unfold Format.read
  rw [signW, bnd, infRg, least]
  simp only [show (9223372036854775808 : Nat) = sgnW from rfl, read_neg h, show b % sgnW = frung b from rfl]
  rw [if_neg (by rw [hr]; decide), if_neg (by omega), if_pos hr]
theorem read_nan {b : Nat} (h : b < 2 * sgnW) (hr : infR < frung b) : double.read b = .nan (fneg b) (frung b - infR) := by
  unfold Format.read
  rw [signW, bnd, infRg, least]
  simp only [show (9223372036854775808 : Nat) = sgnW from rfl, read_neg h, show b % sgnW = frung b from rfl]
  rw [if_neg (by have : bn ≤ infR := by decide
                 omega), if_neg (by omega), if_neg (by omega)]
/-! ### order -/
theorem cmp_int (a b : Int) : compare a b = if a < b then .lt else if a = b then .eq else .gt := rfl
theorem cmp_scale (a b : Int) (k : Nat) : compare (a * 2 ^ k) (b * 2 ^ k) = compare a b := by
  have hp : (0 : Int) < 2 ^ k := Int.pow_pos (by decide)
  rw [cmp_int, cmp_int]
  rcases Int.lt_trichotomy a b with h | h | h
  · rw [if_pos h, if_pos (Int.mul_lt_mul_of_pos_right h hp)]
  · subst h; rw [if_neg (Int.lt_irrefl _), if_neg (Int.lt_irrefl _), if_pos rfl, if_pos rfl]
  · have h' := Int.mul_lt_mul_of_pos_right h hp
    rw [if_neg (by omega), if_neg (by omega), if_neg (by omega), if_neg (by omega)]
theorem sv_mul (neg : Bool) (m k : Nat) : sv neg (m * 2 ^ k) = sv neg m * 2 ^ k := by
  unfold sv; cases neg <;> simp [Int.natCast_mul, Int.neg_mul]
theorem signed_sv (neg : Bool) (m k : Nat) : signed neg m k = sv neg (m * 2 ^ k) := by
  unfold signed sv; rw [Nat.shiftLeft_eq]
theorem order_fin {a b : Nat} (ha : a < 2 * sgnW) (hb : b < 2 * sgnW) (fa : frung a < infR) (fb : frung b < infR) : double.order a b = some (compare (V a) (V b)) := by
  unfold Format.order
  rw [read_fin ha fa, read_fin hb fb]
  unfold Datum.order
  obtain ⟨_, _, _, ma⟩ := rung_split (frung a)
  obtain ⟨_, _, _, mb⟩ := rung_split (frung b)
  unfold V
  rw [ma, mb]
  dsimp only
  generalize plc (frung a) = i
  generalize plc (frung b) = j
  rw [signed_sv, signed_sv]
  obtain ⟨k, hk⟩ : ∃ k : Nat, (k : Int) = min ((i : Int) - 1074) ((j : Int) - 1074) + 1074 := ⟨min i j, by omega⟩
  have e1 : i = ((i : Int) - 1074 - min ((i : Int) - 1074) ((j : Int) - 1074)).toNat + k := by omega
  have e2 : j = ((j : Int) - 1074 - min ((i : Int) - 1074) ((j : Int) - 1074)).toNat + k := by omega
  generalize ((i : Int) - 1074 - min ((i : Int) - 1074) ((j : Int) - 1074)).toNat = x at *
  generalize ((j : Int) - 1074 - min ((i : Int) - 1074) ((j : Int) - 1074)).toNat = y at *
  rw [e1, e2, Nat.pow_add, Nat.pow_add, ← Nat.mul_assoc, ← Nat.mul_assoc, sv_mul _ _ k, sv_mul _ _ k, cmp_scale]
theorem V_fin_lt {b : Nat} (h : frung b < infR) : -(mag infR : Int) < V b ∧ V b < (mag infR : Int) := by
  have := mag_mono h
  unfold V sv; split <;> omega
theorem order_le {a b : Nat} (ha : a < 2 * sgnW) (hb : b < 2 * sgnW) (fa : frung a ≤ infR) (fb : frung b ≤ infR) : double.order a b = some (compare (V a) (V b)) := by
  have hm : 0 < mag infR := by have := mag_mono (show 0 < infR by decide); rw [mag_zero] at this; exact this
  rcases Nat.lt_or_eq_of_le fa with fa | fa
  · rcases Nat.lt_or_eq_of_le fb with fb | fb
    · exact order_fin ha hb fa fb
    · unfold Format.order
      rw [read_fin ha fa, read_inf hb fb]
      unfold Datum.order
      have hv := V_fin_lt fa
      have hb' : V b = sv (fneg b) (mag infR) := by unfold V; rw [fb]
      rw [hb', cmp_int]
      cases hn : fneg b
      · rw [if_pos (by unfold sv; simp; omega)]; simp
      · rw [if_neg (by unfold sv; simp; omega), if_neg (by unfold sv; simp; omega)]; simp
  · rcases Nat.lt_or_eq_of_le fb with fb | fb
    · unfold Format.order
      rw [read_inf ha fa, read_fin hb fb]
      unfold Datum.order
      have hv := V_fin_lt fb
      have ha' : V a = sv (fneg a) (mag infR) := by unfold V; rw [fa]
      rw [ha', cmp_int]
      cases hn : fneg a
      · rw [if_neg (by unfold sv; simp; omega), if_neg (by unfold sv; simp; omega)]; simp
      · rw [if_pos (by unfold sv; simp; omega)]; simp
    · unfold Format.order
      rw [read_inf ha fa, read_inf hb fb]
      unfold Datum.order
      have ha' : V a = sv (fneg a) (mag infR) := by unfold V; rw [fa]
      have hb' : V b = sv (fneg b) (mag infR) := by unfold V; rw [fb]
      rw [ha', hb', cmp_int]
      revert hm; generalize mag infR = M; intro hm
      unfold sv
      cases fneg a <;> cases fneg b <;> simp <;> first | rfl | (rw [if_pos (by omega)]; rfl) | (rw [if_neg (by omega), if_neg (by omega)]; rfl) | skip
theorem order_nan {a b : Nat} (ha : a < 2 * sgnW) (hb : b < 2 * sgnW) (h : infR < frung a ∨ infR < frung b) : double.order a b = none := by
  unfold Format.order
  rcases h with h | h
  · rw [read_nan ha h]; unfold Datum.order; rfl
  · rw [read_nan hb h]; unfold Datum.order
    cases double.read a <;> rfl
/-! ### products -/
theorem mul_fin {a b : Nat} (ha : a < 2 * sgnW) (hb : b < 2 * sgnW) (fa : frung a < infR) (fb : frung b < infR) {m : Nat} {p : Int} {r : Nat}
    (hm : m = sig (frung a) * sig (frung b)) (hp : p = (plc (frung a) : Int) - 1074 + ((plc (frung b) : Int) - 1074)) (h0 : m ≠ 0) (hr : toX m p = mag r * 2 ^ toS p) : double.mul a b = some (double.word (fneg a ^^ fneg b) (min r infR)) := by
  unfold Format.mul
  rw [read_fin ha fa, read_fin hb fb]
  unfold Datum.product
  dsimp only [Option.map]
  rw [← hm, ← hp]
  unfold Format.write
  show some (double.nearest _ m p) = _
  rw [nearest_rung _ _ _ h0, hr, rung_exact]

/-! ### the float of a dyadic number -/
theorem rung_le {X s r : Nat} (h : X ≤ mag r * 2 ^ s) : rung X s ≤ r := by
  rw [← rung_exact r s]; exact rung_mono h
theorem rung_ge {X s r : Nat} (h : mag r * 2 ^ s ≤ X) : r ≤ rung X s := by
  rw [← rung_exact r s]; exact rung_mono h
theorem half_of (m : Nat) (e q : Int) (K : Nat) (he : 0 ≤ e + K) (hkq : 0 ≤ q + K) (n : Nat)
    (hn : n = if q ≤ e then m * 2 ^ (e - q).toNat else rhe m (q - e).toNat) : Half (m * 2 ^ (e + K).toNat) (q + K).toNat n := by
  by_cases h : q ≤ e
  · rw [if_pos h] at hn
    have : m * 2 ^ (e + K).toNat = n * 2 ^ (q + K).toNat := by
      rw [hn, Nat.mul_assoc, ← Nat.pow_add]; congr 2; omega
    rw [this]; exact half_exact _ _
  · rw [if_neg h] at hn
    have : (q + K).toNat = (q - e).toNat + (e + K).toNat := by omega
    rw [this, hn]; exact (half_rhe _ _).scale _
theorem near_alg (m : Nat) (e : Int) (K : Nat) (hm : m ≠ 0) (hK : 1074 ≤ K) (he : 0 ≤ e + K) (q : Int) (hq : q = max (e + Nat.log2 m - 52) (-1074)) (n : Nat)
    (hn : n = if q ≤ e then m * 2 ^ (e - q).toNat else rhe m (q - e).toNat) :
    rung (m * 2 ^ (e + K).toNat) (K - 1074) = (q + 1074).toNat * bn + n ∧ n ≤ 2 * bn ∧ (q = -1074 ∨ bn ≤ n) := by
  have hh := half_of m e q K he (by omega) n hn
  have hX : m * 2 ^ (e + K).toNat ≠ 0 := Nat.mul_ne_zero hm (Nat.ne_of_gt (Nat.two_pow_pos _))
  have hl := log2_shift m (e + K).toNat hm
  have l1 := Nat.log2_self_le hX
  have l2 := @Nat.lt_log2_self (m * 2 ^ (e + K).toNat)
  rw [hl] at l1 l2
  have ej : Nat.log2 (m * 2 ^ (e + K).toNat) - (52 + (K - 1074)) = (q + 1074).toNat := by omega
  have es : (q + K).toNat = (K - 1074) + (q + 1074).toNat := by omega
  refine ⟨?_, ?_, ?_⟩
  · have := (rung_half (s := K - 1074) hX (n := n) (by rw [ej, ← es]; exact hh)).rung
    rw [ej] at this; exact this
  · refine hh.le ?_
    rw [show 2 * bn = 2 ^ 53 from rfl, ← Nat.pow_add]
    exact Nat.le_of_lt (Nat.lt_of_lt_of_le l2 (Nat.pow_le_pow_right (by decide) (by omega)))
  · rcases Int.lt_or_le (-1074) q with h | h
    · right
      refine hh.ge ?_
      rw [bn_eq, ← Nat.pow_add]
      refine Nat.le_trans (Nat.pow_le_pow_right (by decide) ?_) l1
      omega
    · left; omega
/-- Far below the least float: 0. -/
theorem near_low (m : Nat) (e : Int) (K : Nat) (hm : m ≠ 0) (hK : 1074 ≤ K) (he : 0 ≤ e + K) (h : e + Nat.log2 m < -1080) :
    rung (m * 2 ^ (e + K).toNat) (K - 1074) = 0 := by
  have hX : m * 2 ^ (e + K).toNat ≠ 0 := Nat.mul_ne_zero hm (Nat.ne_of_gt (Nat.two_pow_pos _))
  have hl := log2_shift m (e + K).toNat hm
  have l2 := @Nat.lt_log2_self (m * 2 ^ (e + K).toNat)
  rw [hl] at l2
  have hp : (2 : Nat) ^ (m.log2 + (e + K).toNat + 1) * 2 ≤ 2 ^ (K - 1074) := by
    rw [← Nat.pow_succ]; exact Nat.pow_le_pow_right (by decide) (by omega)
  refine Rnd.rung ⟨?_, fun _ => rfl, fun h => absurd h (by omega), fun h => absurd h (by omega)⟩
  have : mag 0 + mag (0 + 1) = 1 := by decide
  rw [this, Nat.one_mul]; omega
/-- Far above: past all floats. -/
theorem mag_inf (c : Nat) (hc : c = 2046) : mag infR = bn * 2 ^ c := by
  have := mag_at c bn (by decide) (.inr (Nat.le_refl _))
  rw [show c * bn + bn = infR from by rw [hc]; rfl] at this; exact this
theorem near_high (m : Nat) (e : Int) (K : Nat) (hm : m ≠ 0) (hK : 1074 ≤ K) (he : 0 ≤ e + K) (h : 1023 < e + Nat.log2 m) :
    infR ≤ rung (m * 2 ^ (e + K).toNat) (K - 1074) := by
  have hX : m * 2 ^ (e + K).toNat ≠ 0 := Nat.mul_ne_zero hm (Nat.ne_of_gt (Nat.two_pow_pos _))
  have hl := log2_shift m (e + K).toNat hm
  have l1 := Nat.log2_self_le hX
  rw [hl] at l1
  apply rung_ge
  obtain ⟨c, hc⟩ : ∃ c, c = 2046 := ⟨_, rfl⟩
  rw [mag_inf c hc, bn_eq, ← Nat.pow_add, ← Nat.pow_add]
  exact Nat.le_trans (Nat.pow_le_pow_right (by decide) (by omega)) l1
/-- Ldexp: a float's place is moved. -/
theorem ldexp_norm {n : Nat} {q : Int} {p s r c : Nat} (hc : c = 1074) (hq : -1074 ≤ q) (hs1 : bn ≤ s) (hs2 : s < 2 * bn) (hp : n * 2 ^ c = s * 2 ^ p)
    (hr : mag r = n * 2 ^ (q + 1074).toNat) (h : 0 ≤ q + p) : r = (q + p).toNat * bn + s := by
  apply mag_inj
  rw [mag_at _ s (by omega) (.inr hs1), hr]
  have h2 : n * 2 ^ (q + 1074).toNat * 2 ^ c = s * 2 ^ (q + p).toNat * 2 ^ c := by
    rw [Nat.mul_right_comm, hp, Nat.mul_assoc, Nat.mul_assoc, ← Nat.pow_add, ← Nat.pow_add]; congr 2; omega
  exact Nat.eq_of_mul_eq_mul_right (Nat.two_pow_pos c) h2
theorem ldexp_over {n : Nat} {q : Int} {p s r c : Nat} (hc : c = 1074) (hq : -1074 ≤ q) (hs1 : bn ≤ s) (hp : n * 2 ^ c = s * 2 ^ p)
    (hr : mag r = n * 2 ^ (q + 1074).toNat) (h : 2046 ≤ q + p) : infR ≤ r := by
  apply mag_le.1
  obtain ⟨d, hd⟩ : ∃ d, d = 2046 := ⟨_, rfl⟩
  rw [mag_inf d hd, hr]
  have h2 : n * 2 ^ (q + 1074).toNat * 2 ^ c = s * 2 ^ (q + p).toNat * 2 ^ c := by
    rw [Nat.mul_right_comm, hp, Nat.mul_assoc, Nat.mul_assoc, ← Nat.pow_add, ← Nat.pow_add]; congr 2; omega
  rw [Nat.eq_of_mul_eq_mul_right (Nat.two_pow_pos c) h2]
  exact Nat.mul_le_mul hs1 (Nat.pow_le_pow_right (by decide) (by omega))
/-- .. below the least full length: by a product with 2^-53. -/
theorem ldexp_low {n : Nat} {q : Int} {p s r c : Nat} (hc : c = 1074) (hq : -1074 ≤ q) (hs1 : bn ≤ s) (hs2 : s < 2 * bn) (hp : n * 2 ^ c = s * 2 ^ p)
    (hr : mag r = n * 2 ^ (q + 1074).toNat) (h1 : q + p < 0) (h2 : 0 ≤ q + p + 53) : mag r * 2 ^ 53 = mag ((q + p + 53).toNat * bn + s) := by
  rw [mag_at _ s (by omega) (.inr hs1), hr]
  have h2 : n * 2 ^ (q + 1074).toNat * 2 ^ 53 * 2 ^ c = s * 2 ^ (q + p + 53).toNat * 2 ^ c := by
    rw [Nat.mul_right_comm (n * 2 ^ (q + 1074).toNat) (2 ^ 53) (2 ^ c), Nat.mul_right_comm n _ (2 ^ c), hp, Nat.mul_assoc, Nat.mul_assoc, Nat.mul_assoc, ← Nat.pow_add, ← Nat.pow_add, ← Nat.pow_add]
    congr 2; omega
  exact Nat.eq_of_mul_eq_mul_right (Nat.two_pow_pos c) h2

/-! ### exact products, whole numbers -/
theorem mul_exact {a b r c : Nat} (hc : c = 1074) (ha : a < 2 * sgnW) (hb : b < 2 * sgnW) (fa : frung a < infR) (fb : frung b < infR)
    (hr : mag (frung a) * mag (frung b) = mag r * 2 ^ c) : double.mul a b = some (double.word (fneg a ^^ fneg b) (min r infR)) := by
  unfold Format.mul
  rw [read_fin ha fa, read_fin hb fb]
  unfold Datum.product
  dsimp only [Option.map]
  unfold Format.write
  show some (double.nearest _ _ _) = _
  obtain ⟨_, _, _, ea⟩ := rung_split (frung a)
  obtain ⟨_, _, _, eb⟩ := rung_split (frung b)
  rw [ea, eb] at hr
  generalize sig (frung a) = sa at *
  generalize sig (frung b) = sb at *
  generalize plc (frung a) = pa at *
  generalize plc (frung b) = pb at *
  by_cases h0 : sa * sb = 0
  · have : mag r * 2 ^ c = 0 := by
      rw [← hr, Nat.mul_mul_mul_comm, h0, Nat.zero_mul]
    have hm : mag r = 0 := by
      rcases Nat.mul_eq_zero.1 this with h | h
      · exact h
      · exact absurd h (Nat.ne_of_gt (Nat.two_pow_pos _))
    have : r = 0 := mag_inj (by rw [hm, mag_zero])
    unfold Format.nearest
    rw [if_pos h0, this, Nat.zero_min]
  · rw [nearest_rung _ _ _ h0]
    have : toX (sa * sb) ((pa : Int) - 1074 + ((pb : Int) - 1074)) = mag r * 2 ^ toS ((pa : Int) - 1074 + ((pb : Int) - 1074)) := by
      unfold toX toS
      apply Nat.eq_of_mul_eq_mul_right (Nat.two_pow_pos c)
      rw [Nat.mul_right_comm (mag r), ← hr, Nat.mul_mul_mul_comm, Nat.mul_assoc (sa * sb), Nat.mul_assoc (sa * sb), ← Nat.pow_add, ← Nat.pow_add, ← Nat.pow_add]
      congr 2; omega
    rw [this, rung_exact]
/-- 1.0, -1.0, 2^-53 -/
theorem mag_one (c : Nat) (hc : c = 1074) : mag (1023 * bn) = 2 ^ c := by
  have := mag_at (c - 52) bn (by decide) (.inr (Nat.le_refl _))
  rw [show (c - 52) * bn + bn = 1023 * bn from by subst hc; rfl, bn_eq, ← Nat.pow_add] at this
  rw [← bn_eq, show 52 + (c - 52) = c by omega] at this
  exact this
theorem mag_m53 (c : Nat) (hc : c = 1021) : mag (970 * bn) = 2 ^ c := by
  have := mag_at (c - 52) bn (by decide) (.inr (Nat.le_refl _))
  rw [show (c - 52) * bn + bn = 970 * bn from by subst hc; rfl, bn_eq, ← Nat.pow_add] at this
  rw [← bn_eq, show 52 + (c - 52) = c by omega] at this
  exact this
theorem one_w (neg : Bool) : double.word neg (1023 * bn) < 2 * sgnW ∧ frung (double.word neg (1023 * bn)) = 1023 * bn ∧ fneg (double.word neg (1023 * bn)) = neg := by
  obtain ⟨a, b⟩ := word_neg neg (show 1023 * bn < sgnW by decide)
  exact ⟨by cases neg <;> decide, b, a⟩
theorem word_lt2 (neg : Bool) {r : Nat} (h : r < sgnW) : double.word neg r < 2 * sgnW := by
  rw [word_eq]; split <;> omega
/-- A sign times a float. -/
theorem mul_sign (neg : Bool) {r : Nat} (h : r ≤ infR) (n2 : Bool) : double.mul (double.word neg (1023 * bn)) (double.word n2 r) = some (double.word (neg ^^ n2) r) := by
  have hlt : r < sgnW := Nat.lt_of_le_of_lt h infR_lt
  obtain ⟨o1, o2, o3⟩ := one_w neg
  obtain ⟨w1, w2⟩ := word_neg n2 hlt
  have w0 := word_lt2 n2 hlt
  rcases Nat.lt_or_eq_of_le h with h | h
  · obtain ⟨c, hc⟩ : ∃ c, c = 1074 := ⟨_, rfl⟩
    rw [mul_exact (r := r) hc o1 w0 (by rw [o2]; decide) (by rw [w2]; exact h) (by rw [o2, w2, mag_one c hc, Nat.mul_comm]), o3, w1, Nat.min_eq_left (Nat.le_of_lt h)]
  · unfold Format.mul
    rw [read_fin o1 (by rw [o2]; decide), read_inf w0 (by rw [w2]; exact h), o3, w1]
    unfold Datum.product
    dsimp only
    rw [o2, if_neg (by decide)]
    dsimp only [Option.map]
    unfold Format.write
    dsimp only
    rw [infRg, h, Bool.xor_comm]
/-- 2^-53 times a float of which nothing is lost. -/
theorem mul_m53 {r r' : Nat} (h : r ≤ infR) (h' : r' < infR) (e : mag r * 2 ^ 53 = mag r') : double.mul (double.word false (970 * bn)) (double.word false r') = some (double.word false r) := by
  have hlt : r' < sgnW := Nat.lt_trans h' infR_lt
  obtain ⟨o3, o2⟩ := word_neg false (show 970 * bn < sgnW by decide)
  have o1 := word_lt2 false (show 970 * bn < sgnW by decide)
  obtain ⟨w1, w2⟩ := word_neg false hlt
  have w0 := word_lt2 false hlt
  obtain ⟨c, hc⟩ : ∃ c, c = 1074 := ⟨_, rfl⟩
  rw [mul_exact (r := r) hc o1 w0 (by rw [o2]; decide) (by rw [w2]; exact h') (by
    rw [o2, w2, mag_m53 (c - 53) (by omega), ← e, Nat.mul_left_comm, ← Nat.pow_add]; congr 2; omega), o3, w1, Nat.min_eq_left h]
  rfl
/-- A whole number's float. -/
theorem int_split {n : Nat} (h0 : n ≠ 0) (h : n ≤ 2 * bn) (c : Nat) (hc : c = 1074) : ∃ s p : Nat, bn ≤ s ∧ s < 2 * bn ∧ n * 2 ^ c = s * 2 ^ p ∧ p ≤ 1075 := by
  have l1 := Nat.log2_self_le h0
  have l2 := @Nat.lt_log2_self n
  rcases Nat.lt_or_eq_of_le h with h | h
  · have hl : n.log2 ≤ 52 := by
      rcases Nat.lt_or_ge 52 n.log2 with q | q
      · have : (2 : Nat) ^ 53 ≤ 2 ^ n.log2 := Nat.pow_le_pow_right (by decide) q
        have e : (2 : Nat) ^ 53 = 2 * bn := rfl
        omega
      · exact q
    refine ⟨n * 2 ^ (52 - n.log2), c - 52 + n.log2, ?_, ?_, ?_, by omega⟩
    · rw [bn_eq, show (52 : Nat) = n.log2 + (52 - n.log2) by omega, Nat.pow_add]
      rw [show n.log2 + (52 - n.log2) - n.log2 = 52 - n.log2 by omega]
      exact Nat.mul_le_mul_right _ l1
    · rw [show 2 * bn = 2 ^ 53 from rfl, show (53 : Nat) = n.log2 + 1 + (52 - n.log2) by omega, Nat.pow_add]
      exact Nat.mul_lt_mul_of_pos_right l2 (Nat.two_pow_pos _)
    · rw [Nat.mul_assoc, ← Nat.pow_add]; congr 2; omega
  · refine ⟨bn, c + 1, Nat.le_refl _, by decide, ?_, by omega⟩
    rw [h, Nat.pow_succ, Nat.mul_comm 2 bn, Nat.mul_assoc, Nat.mul_comm 2]
theorem int_word {n s p c : Nat} (hc : c = 1074) (h0 : n ≠ 0) (hs1 : bn ≤ s) (hs2 : s < 2 * bn) (hp : n * 2 ^ c = s * 2 ^ p) (hl : p ≤ 1075) :
    double.nearest false n 0 = double.word false (p * bn + s) := by
  rw [nearest_rung _ _ _ h0]
  have e1 : toX n 0 = mag (p * bn + s) * 2 ^ toS 0 := by
    rw [mag_at p s (by omega) (.inr hs1), ← hp]
    unfold toX toS
    rw [show ((0 : Int) + 1074).toNat = c by omega, show (-1074 - (0 : Int)).toNat = 0 by decide, Nat.pow_zero, Nat.mul_one]
  rw [e1, rung_exact, Nat.min_eq_left]
  have : p * bn ≤ 1075 * bn := Nat.mul_le_mul_right _ hl
  have e : 1075 * bn + 2 * bn ≤ infR := by decide
  omega
theorem int_zero (neg : Bool) : double.nearest neg 0 0 = double.word neg 0 := by
  unfold Format.nearest; rw [if_pos rfl]
end Go.Proofs.YtnmjnjhijcnbcaaDoor.Gp

/-
  Plain laws of floats as numbers of layer 2: which float is nearest to a number; what number a float is.
-/
namespace Go.Proofs.YtnmjnjhijcnbcaaDoor.Gq
open Ieee Go Go.RowKit Go.Proofs.YtnmjnjhijcnbcaaDoor.Ow Go.Proofs.YtnmjnjhijcnbcaaDoor.Pl Go.Proofs.YtnmjnjhijcnbcaaDoor.Dp Go.Proofs.YtnmjnjhijcnbcaaDoor.Gp

/-- So many places a float's unit lies above the scale's. -/
def S : Nat := 98926
theorem S_K : K - 1074 = S := by unfold K S; rfl
/-- The rung nearest to a number's size; its word. -/
def nr (v : Int) : Nat := min (rung v.natAbs S) infR
def nw (v : Int) : Nat := if v = 0 ∨ de v + Nat.log2 (dm v) < -1080 then 0 else double.word (dneg v) (nr v)
theorem nr_le (v : Int) : nr v ≤ infR := Nat.min_le_right _ _
theorem nr_lt (v : Int) : nr v < sgnW := Nat.lt_of_le_of_lt (nr_le v) infR_lt
theorem abs_split {v : Int} : v.natAbs = dm v * 2 ^ (de v + K).toNat := by
  conv => lhs; rw [← sc_self v]
  rw [sc_abs]
theorem nr_zero : nr 0 = 0 := by
  unfold nr rung; rw [if_pos (by rfl), Nat.zero_min]
theorem nr_low {v : Int} (h0 : v ≠ 0) (h : de v + Nat.log2 (dm v) < -1080) : nr v = 0 := by
  have hm : dm v ≠ 0 := fun c => h0 (dm_zero.1 c)
  have := near_low (dm v) (de v) K hm (by unfold K; omega) (by have := de_ge (v := v); omega) h
  unfold nr
  rw [abs_split, ← S_K, this, Nat.zero_min]
theorem nw_word (v : Int) : nw v = double.word (dneg v) (nr v) ∨ (nr v = 0 ∧ nw v = double.word false 0) := by
  unfold nw
  by_cases h0 : v = 0
  · right; subst h0; rw [if_pos (.inl rfl)]; exact ⟨nr_zero, rfl⟩
  · by_cases h : de v + Nat.log2 (dm v) < -1080
    · right; rw [if_pos (.inr h)]; exact ⟨nr_low h0 h, rfl⟩
    · left; rw [if_neg (by intro c; rcases c with c | c; exact h0 c; exact h c)]
theorem sv_zero (n : Bool) : sv n 0 = 0 := by cases n <;> rfl
theorem nw_facts (v : Int) : nw v < 2 * sgnW ∧ frung (nw v) = nr v ∧ V (nw v) = sv (dneg v) (mag (nr v)) := by
  rcases nw_word v with h | ⟨h0, h⟩
  · rw [h]; exact ⟨word_lt2 _ (nr_lt v), (word_neg _ (nr_lt v)).2, V_word _ (nr_lt v)⟩
  · rw [h, h0]
    exact ⟨by decide, (word_neg false (show 0 < sgnW by decide)).2, by rw [V_word _ (show 0 < sgnW by decide), mag_zero, sv_zero, sv_zero]⟩
/-- What the program makes of a number that is neither far below nor far above. -/
theorem near_mid {v : Int} (h0 : v ≠ 0) (h1 : -1080 ≤ de v + Nat.log2 (dm v)) (h2 : de v + Nat.log2 (dm v) ≤ 1023) (q : Int) (hq : q = max (de v + Nat.log2 (dm v) - 52) (-1074)) (n : Nat)
    (hn : n = if q ≤ de v then dm v * 2 ^ (de v - q).toNat else rhe (dm v) (q - de v).toNat) :
    nw v = double.word (dneg v) (nr v) ∧ nr v = (q + 1074).toNat * bn + n ∧ n ≤ 2 * bn ∧ mag (nr v) = n * 2 ^ (q + 1074).toNat := by
  have hm : dm v ≠ 0 := fun c => h0 (dm_zero.1 c)
  obtain ⟨e1, e2, e3⟩ := near_alg (dm v) (de v) K hm (by unfold K; omega) (by have := de_ge (v := v); omega) q hq n hn
  have hle : (q + 1074).toNat * bn + n ≤ infR := by
    have : (q + 1074).toNat * bn ≤ 2045 * bn := Nat.mul_le_mul_right _ (by omega)
    have e : 2045 * bn + 2 * bn = infR := by decide
    omega
  have er : nr v = (q + 1074).toNat * bn + n := by
    unfold nr
    rw [abs_split, ← S_K, e1, Nat.min_eq_left hle]
  refine ⟨?_, er, e2, ?_⟩
  · unfold nw; rw [if_neg (by intro c; rcases c with c | c; exact h0 c; omega)]
  · rw [er]; exact mag_at _ n e2 (by rcases e3 with e3 | e3; left; omega; right; exact e3)
theorem near_top {v : Int} (h2 : 1023 < de v + Nat.log2 (dm v)) (h0 : v ≠ 0) : nw v = double.word (dneg v) infR := by
  have hm : dm v ≠ 0 := fun c => h0 (dm_zero.1 c)
  have := near_high (dm v) (de v) K hm (by unfold K; omega) (by have := de_ge (v := v); omega) h2
  unfold nw
  rw [if_neg (by intro c; rcases c with c | c; exact h0 c; omega)]
  unfold nr
  rw [abs_split, ← S_K, Nat.min_eq_right this]
/-- A finite float's number. -/
def fv (b : Nat) : Int := V b * 2 ^ S
theorem fv_sc (b : Nat) : sc (fneg b) (sig (frung b)) ((plc (frung b) : Int) - 1074) = fv b := by
  obtain ⟨_, _, _, e⟩ := rung_split (frung b)
  unfold fv V sc sv
  rw [e]
  have : ((plc (frung b) : Int) - 1074 + K).toNat = plc (frung b) + S := by unfold K S; omega
  rw [this, Nat.pow_add, ← Nat.mul_assoc, Int.natCast_mul _ (2 ^ S), Int.natCast_pow]
  rw [show ((2 : Nat) : Int) = 2 from rfl]
  generalize (2 : Int) ^ S = p
  cases fneg b
  · rw [if_neg (by decide), if_neg (by decide), Int.one_mul]
  · rw [if_pos rfl, if_pos rfl, Int.neg_mul, Int.neg_mul, Int.one_mul]
theorem sv_abs (n : Bool) (m : Nat) : (sv n m).natAbs = m := by unfold sv; cases n <;> simp
theorem fv_abs (b : Nat) : (fv b).natAbs = mag (frung b) * 2 ^ S := by
  unfold fv V
  rw [Int.natAbs_mul, sv_abs, Int.natAbs_pow, show (2 : Int).natAbs = 2 from rfl]
theorem nr_fv {b : Nat} (h : frung b ≤ infR) : nr (fv b) = frung b := by
  unfold nr
  rw [fv_abs, rung_exact, Nat.min_eq_left h]
theorem dneg_fv {b : Nat} (h : frung b ≠ 0) : dneg (fv b) = fneg b := by
  have hm : 0 < mag (frung b) := by
    have := mag_mono (show 0 < frung b by omega); rw [mag_zero] at this; exact this
  have hp : (0 : Int) < 2 ^ S := two_pos S
  have : (0 : Int) < (mag (frung b) : Int) * 2 ^ S := Int.mul_pos (by omega) hp
  unfold dneg fv V sv
  cases fneg b
  · rw [if_neg (by decide)]; exact decide_eq_false (by omega)
  · rw [if_pos rfl, Int.neg_mul]; exact decide_eq_true (by omega)
/-- P3.2 -/
theorem V_back {b : Nat} (h : frung b ≤ infR) : V (nw (fv b)) = V b := by
  rw [(nw_facts (fv b)).2.2, nr_fv h]
  by_cases h0 : frung b = 0
  · rw [show V b = sv (fneg b) (mag (frung b)) from rfl, h0, mag_zero, sv_zero, sv_zero]
  · rw [dneg_fv h0]; rfl
end Go.Proofs.YtnmjnjhijcnbcaaDoor.Gq

/-
  Plain laws of layer 3: nearest, order, next, scale.
-/
namespace Go.Proofs.YtnmjnjhijcnbcaaDoor.Gr
open Ieee Go Go.RowKit Go.Proofs.YtnmjnjhijcnbcaaDoor.Ow Go.Proofs.YtnmjnjhijcnbcaaDoor.Pl Go.Proofs.YtnmjnjhijcnbcaaDoor.Dp Go.Proofs.YtnmjnjhijcnbcaaDoor.Gp Go.Proofs.YtnmjnjhijcnbcaaDoor.Gq

theorem near_lo {X r s : Nat} (h1 : mag r * 2 ^ s ≤ X) (h2 : 2 * X < (mag r + mag (r + 1)) * 2 ^ s) : rung X s = r := by
  apply Nat.le_antisymm _ (rung_ge h1)
  rcases Nat.lt_or_ge r (rung X s) with q | q
  · have d := (rnd_rung X s).dn (by omega)
    have m1 : mag r ≤ mag (rung X s - 1) := mag_le.2 (by omega)
    have m2 : mag (r + 1) ≤ mag (rung X s) := mag_le.2 (by omega)
    have := Nat.mul_le_mul_right (2 ^ s) (Nat.add_le_add m1 m2)
    omega
  · exact q
theorem near_hi {X r s : Nat} (h1 : X ≤ mag (r + 1) * 2 ^ s) (h2 : (mag r + mag (r + 1)) * 2 ^ s < 2 * X) : rung X s = r + 1 := by
  apply Nat.le_antisymm (rung_le h1)
  rcases Nat.lt_or_ge r (rung X s) with q | q
  · exact q
  · have d := (rnd_rung X s).up
    have m1 : mag (rung X s) ≤ mag r := mag_le.2 q
    have m2 : mag (rung X s + 1) ≤ mag (r + 1) := mag_le.2 (by omega)
    have := Nat.mul_le_mul_right (2 ^ s) (Nat.add_le_add m1 m2)
    omega
theorem between {X r s : Nat} (h1 : mag r * 2 ^ s ≤ X) (h2 : X ≤ mag (r + 1) * 2 ^ s) : rung X s = r ∨ rung X s = r + 1 := by
  have := rung_ge h1
  have := rung_le h2
  omega
/-- The distance to the nearest rung. -/
theorem rnd_best (X s t : Nat) : ((mag (rung X s) * 2 ^ s : Nat) - (X : Int)).natAbs ≤ ((mag t * 2 ^ s : Nat) - (X : Int)).natAbs := by
  have R := rnd_rung X s
  generalize rung X s = r at *
  rcases Nat.lt_trichotomy t r with h | h | h
  · have d := R.dn (by omega)
    have m1 : mag t ≤ mag (r - 1) := mag_le.2 (by omega)
    have := Nat.mul_le_mul_right (2 ^ s) m1
    rw [Nat.add_mul] at d
    have := Nat.mul_le_mul_right (2 ^ s) (Nat.le_of_lt (mag_mono h))
    omega
  · subst h; exact Nat.le_refl _
  · have d := R.up
    have m1 : mag (r + 1) ≤ mag t := mag_le.2 (by omega)
    have := Nat.mul_le_mul_right (2 ^ s) m1
    rw [Nat.add_mul] at d
    have := Nat.mul_le_mul_right (2 ^ s) (Nat.le_of_lt (mag_mono h))
    omega
theorem V_sv (b : Nat) : V b = sv (fneg b) (mag (frung b)) := rfl
theorem sv_pow (n : Bool) (m k : Nat) : sv n m * 2 ^ k = sv n (m * 2 ^ k) := (sv_mul n m k).symm
theorem v_sv (v : Int) : v = sv (dneg v) v.natAbs := by
  unfold sv dneg
  by_cases h : v < 0
  · rw [decide_eq_true h, if_pos rfl]; omega
  · rw [decide_eq_false h, if_neg (by decide)]; omega
/-- P3.1 -/
theorem best {v : Int} {b : Nat} (hr : nr v < infR) : (fv (nw v) - v).natAbs ≤ (fv b - v).natAbs := by
  have e : nr v = rung v.natAbs S := by unfold nr at hr ⊢; omega
  unfold fv
  rw [(nw_facts v).2.2, V_sv b, sv_pow, sv_pow, e]
  have h1 := rnd_best v.natAbs S (frung b)
  have h2 := rnd_best v.natAbs S 0
  rw [mag_zero, Nat.zero_mul] at h2
  have hv := v_sv v
  generalize mag (rung v.natAbs S) * 2 ^ S = x at *
  generalize mag (frung b) * 2 ^ S = y at *
  generalize v.natAbs = z at *
  generalize fneg b = n at *
  generalize dneg v = m at *
  rw [hv]
  unfold sv
  cases m <;> cases n <;> simp only [if_true, if_false, Bool.false_eq_true] <;> omega
/-- P3.3 -/
theorem nr_mono {a b : Int} (h : a.natAbs ≤ b.natAbs) : nr a ≤ nr b := by
  have := rung_mono (s := S) h
  unfold nr; omega
theorem near_mono {a b : Int} (h : a ≤ b) : V (nw a) ≤ V (nw b) := by
  rw [(nw_facts a).2.2, (nw_facts b).2.2]
  unfold dneg sv
  by_cases ha : a < 0
  · rw [decide_eq_true ha, if_pos rfl]
    by_cases hb : b < 0
    · rw [decide_eq_true hb, if_pos rfl]
      have := mag_le.2 (nr_mono (a := b) (b := a) (by omega)); omega
    · rw [decide_eq_false hb, if_neg (by decide)]; omega
  · have hb : ¬ b < 0 := by omega
    rw [decide_eq_false ha, if_neg (by decide), decide_eq_false hb, if_neg (by decide)]
    have := mag_le.2 (nr_mono (a := a) (b := b) (by omega)); omega
theorem nr_neg (v : Int) : nr (-v) = nr v := by unfold nr; rw [Int.natAbs_neg]
theorem V_neg (v : Int) : V (nw (-v)) = - V (nw v) := by
  rw [(nw_facts (-v)).2.2, (nw_facts v).2.2, nr_neg]
  by_cases h : v = 0
  · subst h; rw [nr_zero, mag_zero, sv_zero, sv_zero]; rfl
  · unfold dneg sv
    by_cases h1 : v < 0
    · rw [decide_eq_true h1, decide_eq_false (by omega), if_neg (by decide), if_pos rfl]; omega
    · rw [decide_eq_false h1, decide_eq_true (by omega), if_pos rfl, if_neg (by decide)]
/-! ### the float above -/
/-- The word that Next tells of a number or an infinity. -/
def nx (b : Nat) : Nat := if V b = (mag infR : Int) then b else if V b = 0 then 1 else if fneg b then b - 1 else b + 1
theorem V_zero_iff {b : Nat} : V b = 0 ↔ frung b = 0 := by
  unfold V sv
  constructor
  · intro h
    apply mag_inj; rw [mag_zero]
    split at h <;> omega
  · intro h; rw [h, mag_zero]; split <;> rfl
theorem V_pos_word {r : Nat} (h : r < sgnW) : V r = (mag r : Int) := by
  have := V_word false h
  rw [word_eq, if_neg (by decide)] at this
  rw [this]; rfl
theorem nx_pos {b : Nat} (hb : b < 2 * sgnW) (hn : fneg b = false ∨ frung b = 0) (hr : frung b < infR) : nx b = frung b + 1 := by
  obtain ⟨e, h2⟩ := word_split hb
  unfold nx
  by_cases h0 : frung b = 0
  · have hv := V_zero_iff.2 h0
    have hm : 0 < mag infR := by have := mag_mono (show 0 < infR by decide); rw [mag_zero] at this; exact this
    rw [if_neg (by omega), if_pos hv, h0]
  · have hn : fneg b = false := by rcases hn with h | h; exact h; exact absurd h h0
    rw [hn, word_eq, if_neg (by decide)] at e
    have hv : V b = (mag (frung b) : Int) := by unfold V sv; rw [hn, if_neg (by decide)]
    have := mag_mono hr
    rw [if_neg (by rw [hv]; omega), if_neg (fun c => h0 (V_zero_iff.1 c)), hn, if_neg (by decide)]
    omega
theorem nx_neg {b : Nat} (hb : b < 2 * sgnW) (hn : fneg b = true) (h0 : frung b ≠ 0) : nx b = double.word true (frung b - 1) := by
  obtain ⟨e, h2⟩ := word_split hb
  have hv : V b = -(mag (frung b) : Int) := by unfold V sv; rw [hn, if_pos rfl]
  unfold nx
  have hm : 0 < mag infR := by have := mag_mono (show 0 < infR by decide); rw [mag_zero] at this; exact this
  rw [if_neg (by rw [hv]; omega), if_neg (fun c => h0 (V_zero_iff.1 c)), if_pos hn]
  rw [hn, word_eq, if_pos rfl] at e
  rw [word_eq, if_pos rfl]; omega
/-- A float and the next one: the numbers between, and which is nearest to each. -/
structure Gap (b : Nat) : Prop where
  lt : V b < V (nx b)
  dir : ∃ r n, n = false ∧ V b = (mag r : Int) ∧ V (nx b) = (mag (r + 1) : Int) ∧ r + 1 ≤ infR ∨ n = true ∧ V b = -(mag (r + 1) : Int) ∧ V (nx b) = -(mag r : Int) ∧ r + 1 ≤ infR
theorem gap {b : Nat} (hb : b < 2 * sgnW) (hr : frung b < infR ∨ (frung b = infR ∧ fneg b = true)) : Gap b := by
  obtain ⟨e, h2⟩ := word_split hb
  by_cases hn : fneg b = false ∨ frung b = 0
  · have hr : frung b < infR := by
      rcases hr with h | ⟨h, h'⟩
      · exact h
      · rcases hn with q | q
        · rw [q] at h'; cases h'
        · rw [q]; decide
    have e1 := nx_pos hb hn hr
    have e2 : V b = (mag (frung b) : Int) := by
      rcases hn with q | q
      · unfold V sv; rw [q, if_neg (by decide)]
      · rw [V_zero_iff.2 q, q, mag_zero]; rfl
    have e3 : V (nx b) = (mag (frung b + 1) : Int) := by
      rw [e1]; exact V_pos_word (by have := infR_lt; omega)
    have := mag_lt_succ (frung b)
    exact ⟨by rw [e2, e3]; omega, frung b, false, .inl ⟨rfl, e2, e3, hr⟩⟩
  · have h0 : frung b ≠ 0 := fun c => hn (.inr c)
    have hn : fneg b = true := by
      cases q : fneg b
      · exact absurd (.inl q) hn
      · rfl
    have e1 := nx_neg hb hn h0
    have e2 : V b = -(mag (frung b - 1 + 1) : Int) := by
      unfold V sv; rw [hn, if_pos rfl, show frung b - 1 + 1 = frung b by omega]
    have e3 : V (nx b) = -(mag (frung b - 1) : Int) := by
      rw [e1, V_word _ (by omega)]; unfold sv; rw [if_pos rfl]
    have := mag_lt_succ (frung b - 1)
    refine ⟨by rw [e2, e3]; omega, frung b - 1, true, .inr ⟨rfl, e2, e3, ?_⟩⟩
    rcases hr with h | ⟨h, _⟩ <;> omega
theorem fv_lt {a b : Nat} : V a < V b ↔ fv a < fv b := by
  unfold fv
  have hp := two_pos S
  constructor
  · intro h; exact Int.mul_lt_mul_of_pos_right h hp
  · intro h; exact Int.lt_of_mul_lt_mul_right h (Int.le_of_lt hp)
theorem nr_eq {v : Int} {r : Nat} (h : rung v.natAbs S = r) (hr : r ≤ infR) : nr v = r := by unfold nr; omega
theorem V_at {v : Int} {r : Nat} (h : rung v.natAbs S = r) (hr : r ≤ infR) (n : Bool) (hn : n = dneg v) : V (nw v) = sv n (mag r) := by
  rw [(nw_facts v).2.2, nr_eq h hr, hn]
theorem gap_near {b : Nat} (G : Gap b) {v : Int} (h1 : fv b ≤ v) (h2 : v ≤ fv (nx b)) :
    (V (nw v) = V b ∨ V (nw v) = V (nx b)) ∧ (2 * v < fv b + fv (nx b) → V (nw v) = V b) ∧ (fv b + fv (nx b) < 2 * v → V (nw v) = V (nx b)) := by
  obtain ⟨_, r, n, hd⟩ := G
  unfold fv at *
  have hp := two_pos S
  have e1 : ∀ x : Nat, (x : Int) * 2 ^ S = ((x * 2 ^ S : Nat) : Int) := fun x => by rw [Int.natCast_mul, Int.natCast_pow]; rw [show ((2 : Nat) : Int) = 2 from rfl]
  rcases hd with ⟨rfl, e2, e3, hr⟩ | ⟨rfl, e2, e3, hr⟩
  · rw [e2, e1] at h1
    rw [e3, e1] at h2
    rw [e2, e3, e1, e1]
    have hv : 0 ≤ v := by omega
    have hn : false = dneg v := by unfold dneg; exact (decide_eq_false (by omega)).symm
    have L : mag r * 2 ^ S ≤ v.natAbs := by omega
    have U : v.natAbs ≤ mag (r + 1) * 2 ^ S := by omega
    refine ⟨?_, fun q => ?_, fun q => ?_⟩
    · rcases between L U with q | q
      · left; rw [V_at q (by omega) _ hn]; rfl
      · right; rw [V_at q (by omega) _ hn]; rfl
    · rw [V_at (near_lo L (by rw [Nat.add_mul]; omega)) (by omega) _ hn]; rfl
    · rw [V_at (near_hi U (by rw [Nat.add_mul]; omega)) (by omega) _ hn]; rfl
  · rw [e2, Int.neg_mul, e1] at h1
    rw [e3, Int.neg_mul, e1] at h2
    rw [e2, e3, Int.neg_mul, Int.neg_mul, e1, e1]
    have L : mag r * 2 ^ S ≤ v.natAbs := by omega
    have U : v.natAbs ≤ mag (r + 1) * 2 ^ S := by omega
    by_cases h0 : v = 0
    · subst h0
      have hm : mag r * 2 ^ S = 0 := by simpa using L
      have hm : mag r = 0 := by
        rcases Nat.mul_eq_zero.1 hm with q | q
        · exact q
        · exact absurd q (Nat.ne_of_gt (Nat.two_pow_pos _))
      have hV : V (nw 0) = 0 := by rw [(nw_facts 0).2.2, nr_zero, mag_zero, sv_zero]
      have hm1 : 0 < mag (r + 1) := by have := mag_lt_succ r; omega
      have := Nat.mul_pos hm1 (Nat.two_pow_pos S)
      rw [hV, hm]
      exact ⟨.inr rfl, fun q => by rw [Nat.zero_mul] at q; omega, fun _ => rfl⟩
    · have hn : true = dneg v := by unfold dneg; exact (decide_eq_true (by omega)).symm
      refine ⟨?_, fun q => ?_, fun q => ?_⟩
      · rcases between L U with q | q
        · right; rw [V_at q (by omega) _ hn]; rfl
        · left; rw [V_at q (by omega) _ hn]; rfl
      · rw [V_at (near_hi U (by rw [Nat.add_mul]; omega)) (by omega) _ hn]; rfl
      · rw [V_at (near_lo L (by rw [Nat.add_mul]; omega)) (by omega) _ hn]; rfl
/-! ### a power of two -/
theorem mag_up {r : Nat} (j : Nat) (h : bn ≤ r) : mag (r + j * bn) = mag r * 2 ^ j := by
  obtain ⟨e1, e2, e3, e4⟩ := rung_split r
  have hs : bn ≤ sig r := by
    rcases e3 with q | q
    · rw [q] at e1; omega
    · exact q
  have := mag_at (plc r + j) (sig r) (by omega) (.inr hs)
  rw [e4, Nat.mul_assoc, ← Nat.pow_add, ← this, Nat.add_mul]
  congr 1; omega
theorem rnd_scale {X X' s r r' a b : Nat} (hX : X' * 2 ^ a = X * 2 ^ b) (h : Rnd X s r) (e0 : mag r' * 2 ^ a = mag r * 2 ^ b) (e1 : mag (r' + 1) * 2 ^ a = mag (r + 1) * 2 ^ b)
    (e2 : mag (r' - 1) * 2 ^ a = mag (r - 1) * 2 ^ b) (hp : r' % 2 = r % 2) (h0 : 0 < r) : Rnd X' s r' := by
  have pa := Nat.two_pow_pos a
  have pb := Nat.two_pow_pos b
  have hX2 : 2 * X' * 2 ^ a = 2 * X * 2 ^ b := by rw [Nat.mul_assoc, hX, Nat.mul_assoc]
  have u : (mag r' + mag (r' + 1)) * 2 ^ s * 2 ^ a = (mag r + mag (r + 1)) * 2 ^ s * 2 ^ b := by
    rw [Nat.mul_right_comm, Nat.add_mul, e0, e1, ← Nat.add_mul, Nat.mul_right_comm]
  have d : (mag (r' - 1) + mag r') * 2 ^ s * 2 ^ a = (mag (r - 1) + mag r) * 2 ^ s * 2 ^ b := by
    rw [Nat.mul_right_comm, Nat.add_mul, e0, e2, ← Nat.add_mul, Nat.mul_right_comm]
  refine ⟨?_, fun q => ?_, fun _ => ?_, fun _ q => ?_⟩
  · apply Nat.le_of_mul_le_mul_right (c := 2 ^ a) _ pa
    rw [hX2, u]; exact Nat.mul_le_mul_right _ h.up
  · rw [hp]; apply h.upE
    apply Nat.eq_of_mul_eq_mul_right pb
    rw [← hX2, ← u, q]
  · apply Nat.le_of_mul_le_mul_right (c := 2 ^ a) _ pa
    rw [hX2, d]; exact Nat.mul_le_mul_right _ (h.dn h0)
  · rw [hp]; apply h.dnE h0
    apply Nat.eq_of_mul_eq_mul_right pb
    rw [← hX2, ← d, q]
theorem mag_move {r r' : Nat} {k : Int} {a b : Nat} (hk : (b : Int) = k + a) (h1 : bn ≤ r) (h2 : bn ≤ r') (e : (r' : Int) = r + k * bn) : mag r' * 2 ^ a = mag r * 2 ^ b := by
  rcases Int.le_total 0 k with q | q
  · obtain ⟨j, rfl⟩ := Int.eq_ofNat_of_zero_le q
    have e' : r' = r + j * bn := by
      have : ((j * bn : Nat) : Int) = (j : Int) * bn := Int.natCast_mul _ _
      omega
    rw [e', mag_up j h1, Nat.mul_assoc, ← Nat.pow_add]; congr 2; omega
  · obtain ⟨j, hj⟩ := Int.eq_ofNat_of_zero_le (show 0 ≤ -k by omega)
    have e' : r = r' + j * bn := by
      have : ((j * bn : Nat) : Int) = (j : Int) * bn := Int.natCast_mul _ _
      rw [show k = -(j : Int) by omega, Int.neg_mul] at e
      omega
    rw [e', mag_up j h2, Nat.mul_assoc, ← Nat.pow_add]; congr 2; omega
theorem scale {v v' k : Int} {a b : Nat} (hk : (b : Int) = k + a) (hv : v' * 2 ^ a = v * 2 ^ b) (k0 : -300 ≤ k) (k1 : k ≤ 300) (r0 : 423 * bn < nr v) (r1 : nr v < 1623 * bn) :
    nr v' < infR ∧ V (nw v') * 2 ^ a = V (nw v) * 2 ^ b := by
  have hi : 1923 * bn < infR := by decide
  have hb : 0 < bn := by decide
  have e : rung v.natAbs S = nr v := by unfold nr at *; omega
  have R := rnd_rung v.natAbs S
  rw [e] at R
  have hkb : -(300 * bn : Int) ≤ k * bn ∧ k * bn ≤ (300 * bn : Int) :=
    ⟨by rw [← Int.neg_mul]; exact Int.mul_le_mul_of_nonneg_right (by omega) (by omega), Int.mul_le_mul_of_nonneg_right (by omega) (by omega)⟩
  obtain ⟨r', hr'⟩ := Int.eq_ofNat_of_zero_le (show 0 ≤ (nr v : Int) + k * bn by omega)
  have hr'' : (r' : Int) = nr v + k * bn := by omega
  have hev : r' % 2 = nr v % 2 := by
    have : (bn : Int) = 2 * 2251799813685248 := by decide
    rw [this, ← Int.mul_assoc, Int.mul_right_comm] at hr''
    generalize k * 2251799813685248 = z at *
    omega
  have hX : v'.natAbs * 2 ^ a = v.natAbs * 2 ^ b := by
    have := congrArg Int.natAbs hv
    rwa [Int.natAbs_mul, Int.natAbs_mul, Int.natAbs_pow, Int.natAbs_pow, show (2 : Int).natAbs = 2 from rfl] at this
  have R' : Rnd v'.natAbs S r' := rnd_scale hX R (mag_move hk (by omega) (by omega) hr'')
    (mag_move hk (by omega) (by omega) (by omega)) (mag_move hk (by omega) (by omega) (by omega)) hev (by omega)
  have e' : nr v' = r' := nr_eq R'.rung (by omega)
  refine ⟨by omega, ?_⟩
  have hs : dneg v' = dneg v := by
    have pa := two_pos a
    have pb := two_pos b
    unfold dneg
    by_cases h : v < 0
    · rw [decide_eq_true h]; apply decide_eq_true
      have := Int.mul_neg_of_neg_of_pos h pb
      rw [← hv] at this
      rcases Int.lt_or_le v' 0 with q | q
      · exact q
      · exact absurd (Int.mul_nonneg q (Int.le_of_lt pa)) (by omega)
    · rw [decide_eq_false h]; apply decide_eq_false
      have := Int.mul_nonneg (show 0 ≤ v by omega) (Int.le_of_lt pb)
      rw [← hv] at this
      intro q
      have := Int.mul_neg_of_neg_of_pos q pa
      omega
  rw [(nw_facts v').2.2, (nw_facts v).2.2, hs, e', sv_pow, sv_pow, mag_move hk (by omega) (by omega) hr'']
end Go.Proofs.YtnmjnjhijcnbcaaDoor.Gr

/-
  Floats in the walks: the two body-less functions, bits; math.Inf, NaN, IsNaN, Abs, Copysign, IsInf.
-/
namespace Go.Proofs.YtnmjnjhijcnbcaaDoor.G1
open Ieee Go Go.RowKit Go.Proofs.YtnmjnjhijcnbcaaDoor Go.Proofs.YtnmjnjhijcnbcaaDoor.Ow Go.Proofs.YtnmjnjhijcnbcaaDoor.Gp

/-! ### bits -/
def W64 : Nat := 18446744073709551616
theorem mask_mod (x k : Nat) : x &&& (2 ^ k - 1) = x % 2 ^ k := Nat.and_two_pow_sub_one_eq_mod x k
theorem and_2047 {b : Nat} (h : b < 2 * sgnW) : bits .and .u64 ((b / bn : Nat) : Int) 2047 = ((b / bn % 2048 : Nat) : Int) := by
  have h1 : b / bn < 18446744073709551616 := Nat.lt_of_le_of_lt (Nat.div_le_self _ _) h
  have := u64_and_nat (b / bn) 2047 h1 (by decide)
  rw [show (2047 : Nat) = 2 ^ 11 - 1 from rfl, mask_mod] at this
  exact this
theorem and_frac {b : Nat} (h : b < 2 * sgnW) : bits .and .u64 (b : Int) 4503599627370495 = ((b % bn : Nat) : Int) := by
  have := u64_and_nat b 4503599627370495 h (by decide)
  rw [show (4503599627370495 : Nat) = 2 ^ 52 - 1 from rfl, mask_mod] at this
  exact this
theorem and_pow (x i : Nat) : x &&& 2 ^ i = if x.testBit i then 2 ^ i else 0 := by
  apply Nat.eq_of_testBit_eq
  intro j
  rw [Nat.testBit_and, Nat.testBit_two_pow]
  by_cases h : i = j
  · subst h
    cases x.testBit i
    · simp
    · simp
  · rw [decide_eq_false h, Bool.and_false]
    cases x.testBit i
    · simp
    · simp [Nat.testBit_two_pow, h]
theorem and_sign {b : Nat} (h : b < 2 * sgnW) : bits .and .u64 (b : Int) 9223372036854775808 = (((if fneg b then sgnW else 0) : Nat) : Int) := by
  have := u64_and_nat b 9223372036854775808 h (by decide)
  rw [show (9223372036854775808 : Nat) = 2 ^ 63 from rfl, and_pow] at this
  rw [show (9223372036854775808 : Int) = ((2 ^ 63 : Nat) : Int) from rfl, this]
  congr 1
  rw [Nat.testBit_eq_decide_div_mod_eq]
  have e : (2 : Nat) ^ 63 = sgnW := rfl
  rw [e]
  unfold fneg
  by_cases h1 : sgnW ≤ b
  · have : b / sgnW = 1 := by apply Nat.div_eq_of_lt_le <;> omega
    rw [this, decide_eq_true h1]; rfl
  · rw [Nat.div_eq_of_lt (by omega), decide_eq_false h1]; rfl
theorem andNot_sign {b : Nat} (h : b < 2 * sgnW) : bits .andNot .u64 (b : Int) 9223372036854775808 = ((frung b : Nat) : Int) := by
  have := u64_andNot_nat b 9223372036854775808 h (by decide)
  rw [show (18446744073709551615 - 9223372036854775808 : Nat) = 2 ^ 63 - 1 from rfl, mask_mod] at this
  exact this
theorem andNot_exp {b : Nat} (h : b < sgnW) : bits .andNot .u64 (b : Int) 9218868437227405312 = ((b % bn : Nat) : Int) := by
  have := u64_andNot_nat b 9218868437227405312 (Nat.lt_trans h (by decide)) (by decide)
  refine this.trans ?_
  congr 1
  rw [show (18446744073709551615 - 9218868437227405312 : Nat) = 2 ^ 63 + (2 ^ 52 - 1) from rfl]
  rw [bn_eq, ← mask_mod]
  apply Nat.eq_of_testBit_eq
  intro i
  rw [Nat.testBit_and, Nat.testBit_and]
  by_cases hi : i < 63
  · rw [Nat.testBit_two_pow_add_gt hi]
  · have : b.testBit i = false := Nat.testBit_lt_two_pow (Nat.lt_of_lt_of_le h (by
      have : (2 : Nat) ^ 63 ≤ 2 ^ i := Nat.pow_le_pow_right (by decide) (by omega)
      exact this))
    rw [this, Bool.false_and, Bool.false_and]
theorem or_add {a c : Nat} (i : Nat) (h1 : c < 2 ^ i) (h : 2 ^ i * a + c < W64) : bits .or .u64 (c : Int) ((2 ^ i * a : Nat) : Int) = ((2 ^ i * a + c : Nat) : Int) := by
  have := u64_or_nat c (2 ^ i * a) (show c < W64 by omega) (show 2 ^ i * a < W64 by omega)
  rw [this, Nat.two_pow_add_eq_or_of_lt h1, Nat.or_comm]

/-! ### the two functions without a body -/
theorem run_bits (b : Nat) (w : World) : (callFunc 75 #[.float .f64 b]).run Tryd.prog w = .ok (.value (.int .u64 b)) w := by
  rw [run_callFunc_extern (e := Extern.MathFloatBits.float64bits) Tryd.func75 rfl rfl rfl rfl]; rfl
theorem run_from (n : Int) (w : World) : (callFunc 73 #[.int .u64 n]).run Tryd.prog w = .ok (.value (.float .f64 n.toNat)) w := by
  rw [run_callFunc_extern (e := Extern.MathFloatBits.float64frombits) Tryd.func73 rfl rfl rfl rfl]; rfl
/-- A plain answer; nothing turns. -/
def Quiet (w : World) (v : Value) (e : Ending) (w' : World) : Prop := e = .returned v ∧ w = w'
theorem inf_calls (s : Int) (w : World) : Calls Tryd.prog 71 #[.int .i64 s] w (Quiet w (.float .f64 (if 0 ≤ s then infR else sgnW + infR))) := by
  by_cases h : 0 ≤ s
  · have hr := run_from 9218868437227405312 w
    rw [if_pos h]
    go_enter Tryd.func71, Tryd.ntmps71
    go_wp2
    go_ret
    exact ⟨rfl, rfl⟩
  · have hr := run_from 18442240474082181120 w
    rw [if_neg h]
    go_enter Tryd.func71, Tryd.ntmps71
    go_wp2
    go_ret
    exact ⟨rfl, rfl⟩
theorem nan_calls (w : World) : Calls Tryd.prog 72 #[] w (Quiet w (.float .f64 9221120237041090561)) := by
  have hr := run_from 9221120237041090561 w
  go_enter Tryd.func72, Tryd.ntmps72
  go_wp2
  go_ret
  exact ⟨rfl, rfl⟩
theorem isNaN_calls (b : Nat) (w : World) : Calls Tryd.prog 76 #[.float .f64 b] w (Quiet w (.bool (FloatKind.f64.format.order b b != some .eq))) := by
  go_enter Tryd.func76, Tryd.ntmps76
  go_wp2
  go_ret
  exact ⟨rfl, rfl⟩
theorem abs_calls {b : Nat} (hb : b < 2 * sgnW) (w : World) : Calls Tryd.prog 109 #[.float .f64 b] w (Quiet w (.float .f64 (frung b))) := by
  have hr := run_bits b w
  have h1 := andNot_sign hb
  obtain ⟨p, hp⟩ : ∃ p, bits .andNot .u64 (b : Int) 9223372036854775808 = p := ⟨_, rfl⟩
  have hf := run_from p w
  have e : p.toNat = frung b := by rw [← hp, h1]; rfl
  clear h1
  go_enter Tryd.func109, Tryd.ntmps109
  go_wp2
  go_ret
  exact ⟨rfl, rfl⟩
theorem copysign_calls {a b : Nat} (ha : a < 2 * sgnW) (hb : b < 2 * sgnW) (w : World) :
    Calls Tryd.prog 96 #[.float .f64 a, .float .f64 b] w (Quiet w (.float .f64 (double.word (fneg b) (frung a)))) := by
  have hr := run_bits a w
  have hs := run_bits b w
  have h1 := andNot_sign ha
  have h2 := and_sign hb
  obtain ⟨p, hp⟩ : ∃ p, bits .andNot .u64 (a : Int) 9223372036854775808 = p := ⟨_, rfl⟩
  obtain ⟨q, hq⟩ : ∃ q, bits .and .u64 (b : Int) 9223372036854775808 = q := ⟨_, rfl⟩
  obtain ⟨r, hr'⟩ : ∃ r, bits .or .u64 p q = r := ⟨_, rfl⟩
  have hf := run_from r w
  have e : r.toNat = double.word (fneg b) (frung a) := by
    have hl : frung a < sgnW := Nat.mod_lt _ (by decide)
    rw [← hr', ← hq, ← hp, h1, h2, word_eq]
    have hs : sgnW = 2 ^ 63 := rfl
    cases fneg b
    · have := or_add (a := 0) (c := frung a) 63 hl (by unfold W64; omega)
      rw [Nat.mul_zero, Nat.zero_add] at this
      rw [if_neg (by decide), if_neg (by decide), this]; rfl
    · have := or_add (a := 1) (c := frung a) 63 hl (by unfold W64; omega)
      rw [Nat.mul_one, ← hs] at this
      rw [if_pos rfl, if_pos rfl, this]; rfl
  clear h1 h2
  go_enter Tryd.func96, Tryd.ntmps96
  go_wp2
  go_ret
  exact ⟨rfl, rfl⟩
/-! ### order of positive words -/
theorem order_pos {a b : Nat} (ha : a ≤ infR) (hb : b ≤ infR) : FloatKind.f64.format.order a b = some (compare (mag a : Int) (mag b : Int)) := by
  have hi := infR_lt
  have fa : frung a = a := Nat.mod_eq_of_lt (by omega)
  have fb : frung b = b := Nat.mod_eq_of_lt (by omega)
  have va : V a = (mag a : Int) := by
    have := V_word false (show a < sgnW by omega)
    rw [word_eq, if_neg (by decide)] at this
    rw [this]; rfl
  have vb : V b = (mag b : Int) := by
    have := V_word false (show b < sgnW by omega)
    rw [word_eq, if_neg (by decide)] at this
    rw [this]; rfl
  show double.order a b = _
  rw [order_le (by omega) (by omega) (by omega) (by omega), va, vb]
theorem order_lt {a b : Nat} (h : a < b) (hb : b ≤ infR) : FloatKind.f64.format.order a b = some .lt := by
  rw [order_pos (by omega) hb, cmp_int, if_pos (by have := mag_mono h; omega)]
theorem order_gt {a b : Nat} (h : b < a) (ha : a ≤ infR) : FloatKind.f64.format.order a b = some .gt := by
  have := mag_mono h
  rw [order_pos ha (by omega), cmp_int, if_neg (by omega), if_neg (by omega)]
theorem order_eq {a : Nat} (ha : a ≤ infR) : FloatKind.f64.format.order a a = some .eq := by
  rw [order_pos ha ha, cmp_int, if_neg (by omega), if_pos rfl]
/-- A finite positive float is no infinity. -/
theorem isInf_calls {b : Nat} (hb : b < infR) (w : World) : Calls Tryd.prog 105 #[.float .f64 b, .int .i64 0] w (Quiet w (.bool false)) := by
  have hi := infR_lt
  have ha := abs_calls (b := b) (by omega)
  rw [show frung b = b from Nat.mod_eq_of_lt (by omega)] at ha
  have AB := Ho.mk ha
  have ho : (FloatKind.f64.format.order b 9218868437227405311 == some .gt) = false := by
    rcases Nat.lt_or_ge b 9218868437227405311 with h | h
    · rw [order_lt h (by decide)]; rfl
    · have : b = 9218868437227405311 := by unfold infR at hb; omega
      rw [this, order_eq (by decide)]; rfl
  clear ha
  go_enter Tryd.func105, Tryd.ntmps105
  go_wp2_with (go_at_call 109; (with_reducible refine (AB.out _).mono ?_); rintro e w' ⟨rfl, rfl⟩)
  go_ret
  exact ⟨rfl, rfl⟩
theorem norm_calls {b : Nat} (h : bn ≤ b) (hb : b < infR) (w : World) : Calls Tryd.prog 106 #[.float .f64 b] w (Quiet w (.tuple #[.float .f64 b, .int .i64 0])) := by
  have hi := infR_lt
  have ha := abs_calls (b := b) (by omega)
  rw [show frung b = b from Nat.mod_eq_of_lt (by omega)] at ha
  have AB := Ho.mk ha
  have ho : (FloatKind.f64.format.order b 4503599627370496 == some .lt) = false := by
    rcases Nat.lt_or_ge bn b with q | q
    · rw [show (4503599627370496 : Nat) = bn from rfl, order_gt q (by omega)]; rfl
    · rw [show (4503599627370496 : Nat) = bn from rfl, show b = bn by omega, order_eq (by decide)]; rfl
  clear ha
  go_enter Tryd.func106, Tryd.ntmps106
  go_wp2_with (go_at_call 109; (with_reducible refine (AB.out _).mono ?_); rintro e w' ⟨rfl, rfl⟩)
  exact bodyPost_ret (v := .tuple #[.float .f64 b, .int .i64 0]) (by simp [results, Tryd.f106, go_sem]) rfl ⟨rfl, rfl⟩
end Go.Proofs.YtnmjnjhijcnbcaaDoor.G1

/-
  The walks of math.Ldexp (of a whole number's float) and math.Nextafter (towards the infinity above).
-/
namespace Go.Proofs.YtnmjnjhijcnbcaaDoor.G2
open Ieee Go Go.RowKit Go.Proofs.YtnmjnjhijcnbcaaDoor Go.Proofs.YtnmjnjhijcnbcaaDoor.Ow Go.Proofs.YtnmjnjhijcnbcaaDoor.Gp Go.Proofs.YtnmjnjhijcnbcaaDoor.G1

theorem i64_and_nat (a b : Nat) (ha : a < 9223372036854775808) (hb : b < 9223372036854775808) : bits .and .i64 (a : Int) (b : Int) = ((a &&& b : Nat) : Int) := by
  show IntKind.i64.wrap ((BitVec.ofInt 64 (a : Int) &&& BitVec.ofInt 64 (b : Int)).toNat : Nat) = _
  rw [BitVec.toNat_and, BitVec.ofInt_natCast, BitVec.ofInt_natCast, BitVec.toNat_ofNat, BitVec.toNat_ofNat, Nat.mod_eq_of_lt (by omega), Nat.mod_eq_of_lt (by omega), IntKind.wrap_i64]
  have := Nat.and_le_left (n := a) (m := b)
  omega
theorem i64_or_nat (a b : Nat) (ha : a < 4611686018427387904) (hb : b < 4611686018427387904) : bits .or .i64 (a : Int) (b : Int) = ((a ||| b : Nat) : Int) := by
  show IntKind.i64.wrap ((BitVec.ofInt 64 (a : Int) ||| BitVec.ofInt 64 (b : Int)).toNat : Nat) = _
  rw [BitVec.toNat_or, BitVec.ofInt_natCast, BitVec.ofInt_natCast, BitVec.toNat_ofNat, BitVec.toNat_ofNat, Nat.mod_eq_of_lt (by omega), Nat.mod_eq_of_lt (by omega), IntKind.wrap_i64]
  have : a ||| b < 2 ^ 62 := Nat.or_lt_two_pow (by omega) (by omega)
  omega
theorem and_i2047 {E : Nat} (h : E < 2048) : bits .and .i64 (E : Int) 2047 = (E : Int) := by
  have := i64_and_nat E 2047 (by omega) (by decide)
  rw [show (2047 : Nat) = 2 ^ 11 - 1 from rfl, mask_mod, Nat.mod_eq_of_lt (by omega)] at this
  exact this
/-- A float's place is set. -/
theorem or_exp {f E : Nat} (hf : f < bn) (hE : E < 2048) : (bits .or .u64 (f : Int) ((E : Int) * 4503599627370496)).toNat = E * bn + f := by
  have := or_add (a := E) (c := f) 52 hf (by unfold W64; rw [← bn_eq]; unfold bn at *; omega)
  rw [show ((E : Int) * 4503599627370496) = ((2 ^ 52 * E : Nat) : Int) by rw [← bn_eq]; unfold bn; omega, this, ← bn_eq, Nat.mul_comm]; rfl

theorem shift1 {b s : Nat} (h : b ≤ s) (z : Nat) : z + 1 * b + (s - b) = z + s := by omega
set_option maxRecDepth 100000 in
set_option maxHeartbeats 1000000 in
theorem ldexp_calls {n p s r c : Nat} {q : Int} (hc : c = 1074) (hs1 : bn ≤ s) (hs2 : s < 2 * bn) (hp : p ≤ 1075) (hp0 : 1022 ≤ p) (hq0 : -1074 ≤ q) (hq1 : q ≤ 971) (hn : n * 2 ^ c = s * 2 ^ p)
    (hr : mag r = n * 2 ^ (q + 1074).toNat) (hri : r ≤ infR) (w : World) :
    Calls Tryd.prog 98 #[.float .f64 (p * bn + s), .int .i64 q] w (Quiet w (.float .f64 r)) := by
  obtain ⟨X, hX⟩ : ∃ X, X = p * bn + s := ⟨_, rfl⟩
  rw [← hX]
  have hpb : p * bn ≤ 1075 * bn := Nat.mul_le_mul_right _ hp
  have hb : bn = 4503599627370496 := rfl
  have hi : infR = 9218868437227405312 := rfl
  have hs : sgnW = 9223372036854775808 := rfl
  have hX1 : X < infR := by omega
  have hX0 : bn ≤ X := by omega
  have HI := Ho.mk (isInf_calls (b := X) hX1)
  have HN := Ho.mk (isNaN_calls X)
  have HM := Ho.mk (norm_calls hX0 hX1)
  have o0 : (FloatKind.f64.format.order X 0 == some .eq) = false := by rw [order_gt (by omega) (by omega)]; rfl
  have o1 : (FloatKind.f64.format.order X X != some .eq) = false := by rw [order_eq (by omega)]; rfl
  have o2 : (FloatKind.f64.format.order X 0 == some .lt) = false := by rw [order_gt (by omega) (by omega)]; rfl
  have rb := run_bits X w
  obtain ⟨E, hE⟩ : ∃ E : Nat, E = p + 1 := ⟨_, rfl⟩
  have d1 : (X : Int) / 4503599627370496 = (E : Int) := by
    have : X = E * bn + (s - bn) := by rw [hX, hE, Nat.add_mul]; omega
    have h2 : E * bn = E * 4503599627370496 := rfl
    omega
  have d2 : bits .and .i64 (E : Int) 2047 = (E : Int) := and_i2047 (by omega)
  have d3 : bits .andNot .u64 (X : Int) 9218868437227405312 = ((s - bn : Nat) : Int) := by
    have h1 : X = E * bn + (s - bn) := by rw [hX, hE, Nat.add_mul]; omega
    have h2 : X % bn = s - bn := by rw [h1, Nat.mul_add_mod', Nat.mod_eq_of_lt (by omega)]
    rw [andNot_exp (by omega), h2]
  obtain ⟨e, he⟩ : ∃ e : Int, (E : Int) = e := ⟨_, rfl⟩
  obtain ⟨f, hf⟩ : ∃ f : Int, ((s - bn : Nat) : Int) = f := ⟨_, rfl⟩
  rw [he] at d1 d2
  rw [hf] at d3
  have e0 : 1023 ≤ e := by omega
  have e1 : e ≤ 1076 := by omega
  have rf := fun n => run_from n w
  by_cases hA : 1023 < q + (e - 1023)
  · have : r = infR := Nat.le_antisymm hri (ldexp_over hc hq0 hs1 hn hr (by omega))
    have HF := Ho.mk (inf_calls 1)
    have HR := Ho.mk this
    clear hX hE he hf hn hr hc hp hp0 hs1 hs2 hri this hpb hb hi hs hX1 hX0
    go_enter Tryd.func98, Tryd.ntmps98
    go_wp2_with first
      | (go_at_call 105; (with_reducible refine (HI.out _).mono ?_); rintro _ _ ⟨rfl, rfl⟩)
      | (go_at_call 76; (with_reducible refine (HN.out _).mono ?_); rintro _ _ ⟨rfl, rfl⟩)
      | (go_at_call 106; (with_reducible refine (HM.out _).mono ?_); rintro _ _ ⟨rfl, rfl⟩)
      | (go_at_call 71; (with_reducible refine (HF.out _).mono ?_); rintro _ _ ⟨rfl, rfl⟩)
    go_ret
    exact ⟨by rw [HR.out]; rfl, rfl⟩
  · by_cases hB : -1022 ≤ q + (e - 1023)
    · have er : r = (q + p).toNat * bn + s := ldexp_norm hc hq0 hs1 hs2 hn hr (by omega)
      obtain ⟨o, ho⟩ : ∃ o, bits .or .u64 f ((q + (e - 1023) + 1023) * 4503599627370496) = o := ⟨_, rfl⟩
      have hor : o.toNat = r := by
        have h1 := or_exp (f := s - bn) (E := (q + p).toNat + 1) (by omega) (by omega)
        rw [← ho, ← hf, show q + (e - 1023) + 1023 = (((q + p).toNat + 1 : Nat) : Int) by omega, h1, er, Nat.add_mul, shift1 hs1]
      have hm : ∀ t w, (binOp .mul t (.float .f64 4607182418800017408) (.float .f64 o.toNat)).run Tryd.prog w = .ok (.float .f64 r) w := fun t w => by
        rw [hor]
        refine run_float_arith w .mul t .f64 _ _ r ?_
        have h1 := mul_sign false hri false
        rw [word_eq, word_eq, if_neg (by decide), if_neg (by decide)] at h1
        rw [show (false ^^ false) = false from rfl, word_eq, if_neg (by decide)] at h1
        exact h1
      clear hX hE he hf hn hr hc hp hp0 hs1 hs2 hri hpb hb hi hs hX1 hX0 er hor
      go_enter Tryd.func98, Tryd.ntmps98
      go_wp2_with first
        | (go_at_call 105; (with_reducible refine (HI.out _).mono ?_); rintro _ _ ⟨rfl, rfl⟩)
        | (go_at_call 76; (with_reducible refine (HN.out _).mono ?_); rintro _ _ ⟨rfl, rfl⟩)
        | (go_at_call 106; (with_reducible refine (HM.out _).mono ?_); rintro _ _ ⟨rfl, rfl⟩)
        | (simp only [hm])
      go_ret
      exact ⟨rfl, rfl⟩
    · have hlow : mag r * 2 ^ 53 = mag ((q + p + 53).toNat * bn + s) := ldexp_low hc hq0 hs1 hs2 hn hr (by omega) (by omega)
      obtain ⟨o, ho⟩ : ∃ o, bits .or .u64 f ((q + (e - 1023) + 53 + 1023) * 4503599627370496) = o := ⟨_, rfl⟩
      have hor : o.toNat = (q + p + 53).toNat * bn + s := by
        have h1 := or_exp (f := s - bn) (E := (q + p + 53).toNat + 1) (by omega) (by omega)
        rw [← ho, ← hf, show q + (e - 1023) + 53 + 1023 = (((q + p + 53).toNat + 1 : Nat) : Int) by omega, h1, Nat.add_mul, shift1 hs1]
      have hm : ∀ t w, (binOp .mul t (.float .f64 4368491638549381120) (.float .f64 o.toNat)).run Tryd.prog w = .ok (.float .f64 r) w := fun t w => by
        rw [hor]
        refine run_float_arith w .mul t .f64 _ _ r ?_
        have hz : (q + p + 53).toNat * bn ≤ 53 * bn := Nat.mul_le_mul_right _ (by omega)
        have h1 := mul_m53 hri (r' := (q + p + 53).toNat * bn + s) (by omega) hlow
        rw [word_eq, word_eq, word_eq, if_neg (by decide), if_neg (by decide), if_neg (by decide)] at h1
        exact h1
      clear hX hE he hf hn hr hc hp hp0 hs1 hs2 hri hpb hb hi hs hX1 hX0 hlow hor
      go_enter Tryd.func98, Tryd.ntmps98
      go_wp2_with first
        | (go_at_call 105; (with_reducible refine (HI.out _).mono ?_); rintro _ _ ⟨rfl, rfl⟩)
        | (go_at_call 76; (with_reducible refine (HN.out _).mono ?_); rintro _ _ ⟨rfl, rfl⟩)
        | (go_at_call 106; (with_reducible refine (HM.out _).mono ?_); rintro _ _ ⟨rfl, rfl⟩)
        | (simp only [hm])
      go_ret
      exact ⟨rfl, rfl⟩
theorem ldexp0_calls (q : Int) (w : World) : Calls Tryd.prog 98 #[.float .f64 0, .int .i64 q] w (Quiet w (.float .f64 0)) := by
  have o0 : (FloatKind.f64.format.order 0 0 == some .eq) = true := by rw [order_eq (by decide)]; rfl
  go_enter Tryd.func98, Tryd.ntmps98
  go_wp2
  go_ret
  exact ⟨rfl, rfl⟩
theorem ldexpG_calls (b r : Nat) (q : Int) (w : World) (h : Calls Tryd.prog 98 #[.float .f64 b, .int .i64 q] w (Quiet w (.float .f64 r))) :
    Calls Tryd.prog 78 #[.float .f64 b, .int .i64 q] w (Quiet w (.float .f64 r)) := by
  have H := Ho.mk h
  clear h
  go_enter Tryd.func78, Tryd.ntmps78
  go_wp2_with (go_at_call 98; (with_reducible refine H.out.mono ?_); rintro _ _ ⟨rfl, rfl⟩)
  go_ret
  exact ⟨rfl, rfl⟩
/-- A whole number's float, times a power of two. -/
theorem ldexpN_calls {n r : Nat} {q : Int} (hn : n ≤ 2 * bn) (hq0 : -1074 ≤ q) (hq1 : q ≤ 971) (hr : mag r = n * 2 ^ (q + 1074).toNat) (hri : r ≤ infR) (w : World) :
    Calls Tryd.prog 78 #[.float .f64 (floatOfInt .f64 (n : Int)), .int .i64 q] w (Quiet w (.float .f64 r)) := by
  apply ldexpG_calls
  have e0 : floatOfInt .f64 (n : Int) = double.nearest false n 0 := by
    show FloatKind.f64.nearest (n : Int) = _
    unfold FloatKind.nearest FloatKind.encode
    rw [show decide ((n : Int) < 0) = false from decide_eq_false (by omega), Int.natAbs_natCast]
    rfl
  rw [e0]
  by_cases h0 : n = 0
  · have : r = 0 := mag_inj (by rw [hr, h0, Nat.zero_mul, mag_zero])
    subst h0; subst this
    rw [int_zero]
    exact ldexp0_calls q w
  · obtain ⟨c, hc⟩ : ∃ c, c = 1074 := ⟨_, rfl⟩
    obtain ⟨s, p, hs1, hs2, hp, hpl⟩ := int_split h0 hn c hc
    rw [int_word hc h0 hs1 hs2 hp hpl, word_eq, if_neg (by decide)]
    have hp0 : 1022 ≤ p := by
      rcases Nat.lt_or_ge p 1022 with q | q
      · have h1 : s * 2 ^ p < 2 * bn * 2 ^ (c - 53) := by
          refine Nat.lt_of_lt_of_le (Nat.mul_lt_mul_of_pos_right hs2 (Nat.two_pow_pos p)) (Nat.mul_le_mul_left _ (Nat.pow_le_pow_right (by decide) (by omega)))
        rw [show 2 * bn = 2 ^ 53 from rfl, ← Nat.pow_add, show 53 + (c - 53) = c by omega, ← hp] at h1
        have := Nat.mul_le_mul_right (2 ^ c) (show 1 ≤ n by omega)
        omega
      · exact q
    exact ldexp_calls hc hs1 hs2 hpl hp0 hq0 hq1 hp hr hri w
end Go.Proofs.YtnmjnjhijcnbcaaDoor.G2

/-
  The walks of Next (both), of the reference's Same, of split and Same.
-/
namespace Go.Proofs.YtnmjnjhijcnbcaaDoor.G3
open Ieee Go Go.RowKit Go.Proofs.YtnmjnjhijcnbcaaDoor Go.Proofs.YtnmjnjhijcnbcaaDoor.Ow Go.Proofs.YtnmjnjhijcnbcaaDoor.Gp Go.Proofs.YtnmjnjhijcnbcaaDoor.Gr Go.Proofs.YtnmjnjhijcnbcaaDoor.G1 Go.Proofs.YtnmjnjhijcnbcaaDoor.G2

theorem ord {a b : Nat} (ha : a < 2 * sgnW) (hb : b < 2 * sgnW) (fa : frung a ≤ infR) (fb : frung b ≤ infR) : FloatKind.f64.format.order a b = some (compare (V a) (V b)) := order_le ha hb fa fb
theorem ord_no {a b : Nat} (ha : a < 2 * sgnW) (hb : b < 2 * sgnW) (h : infR < frung a ∨ infR < frung b) : FloatKind.f64.format.order a b = none := order_nan ha hb h
theorem c_lt {x y : Int} (h : x < y) : compare x y = .lt := by rw [cmp_int, if_pos h]
theorem c_eq {x y : Int} (h : x = y) : compare x y = .eq := by rw [cmp_int, if_neg (by omega), if_pos h]
theorem c_gt {x y : Int} (h : y < x) : compare x y = .gt := by rw [cmp_int, if_neg (by omega), if_neg (by omega)]
theorem fr_inf : frung infR = infR := by decide
theorem V_inf : V infR = (mag infR : Int) := V_pos_word (by decide)
theorem V_0 : V 0 = 0 := by rw [V_pos_word (by decide), mag_zero]; rfl
theorem mag_pos : 0 < mag infR := by have := mag_mono (show 0 < infR by decide); rw [mag_zero] at this; exact this
theorem V_le_inf {b : Nat} (h : frung b ≤ infR) : V b ≤ (mag infR : Int) := by
  have := mag_le.2 h
  have := mag_pos
  unfold V sv; split <;> omega
/-- What Next tells, of any float. -/
def nxw (b : Nat) : Nat := if infR < frung b then 9221120237041090561 else nx b
theorem lt_of_neg {b : Nat} (hb : b < 2 * sgnW) (h : V b < 0) : fneg b = true := by
  unfold V sv at h
  cases q : fneg b
  · rw [q, if_neg (by decide)] at h; omega
  · rfl
theorem lt_of_pos {b : Nat} (hb : b < 2 * sgnW) (h : 0 < V b) : fneg b = false := by
  unfold V sv at h
  cases q : fneg b
  · rfl
  · rw [q, if_pos rfl] at h; omega

set_option maxRecDepth 100000 in
theorem after_calls {b : Nat} (hb : b < 2 * sgnW) (w : World) : Calls Tryd.prog 77 #[.float .f64 b, .float .f64 infR] w (Quiet w (.float .f64 (nxw b))) := by
  have HN := Ho.mk (isNaN_calls b)
  have HI := Ho.mk (isNaN_calls infR)
  have hi : infR < 2 * sgnW := by decide
  by_cases hn : infR < frung b
  · have o1 : (FloatKind.f64.format.order b b != some .eq) = true := by rw [ord_no hb hb (.inl hn)]; rfl
    have HA := Ho.mk nan_calls
    have HR : Ho (nxw b = 9221120237041090561) := ⟨by unfold nxw; rw [if_pos hn]⟩
    clear hn hi hb
    go_enter Tryd.func77, Tryd.ntmps77
    go_wp2_with first
      | (go_at_call 76; (with_reducible refine (HN.out _).mono ?_); rintro _ _ ⟨rfl, rfl⟩)
      | (go_at_call 72; (with_reducible refine (HA.out _).mono ?_); rintro _ _ ⟨rfl, rfl⟩)
    go_ret
    exact ⟨by rw [HR.out]; rfl, rfl⟩
  · have hf : frung b ≤ infR := by omega
    have o1 : (FloatKind.f64.format.order b b != some .eq) = false := by rw [ord hb hb hf hf, c_eq rfl]; rfl
    have o2 : (FloatKind.f64.format.order infR infR != some .eq) = false := by rw [order_eq (Nat.le_refl _)]; rfl
    have oi := ord hb hi hf (by rw [fr_inf]; exact Nat.le_refl _)
    have oj := ord hi hb (by rw [fr_inf]; exact Nat.le_refl _) hf
    have oz := ord hb (b := 0) (by decide) hf (by decide)
    rw [V_inf] at oi oj
    rw [V_0] at oz
    have hm := mag_pos
    have hle := V_le_inf hf
    have hx : nxw b = nx b := by unfold nxw; rw [if_neg hn]
    unfold nx at hx
    by_cases h1 : V b = (mag infR : Int)
    · have p1 : (FloatKind.f64.format.order b infR == some .eq) = true := by rw [oi, c_eq h1]; rfl
      have HR : Ho (nxw b = b) := ⟨by rw [hx, if_pos h1]⟩
      clear hn hi hb oi oj oz hm hle hx h1 hf
      go_enter Tryd.func77, Tryd.ntmps77
      go_wp2_with first
        | (go_at_call 76; (with_reducible refine (HN.out _).mono ?_); rintro _ _ ⟨rfl, rfl⟩)
        | (go_at_call 76; (with_reducible refine (HI.out _).mono ?_); rintro _ _ ⟨rfl, rfl⟩)
      go_ret
      exact ⟨by rw [HR.out]; rfl, rfl⟩
    · have p1 : (FloatKind.f64.format.order b infR == some .eq) = false := by rw [oi, c_lt (by omega)]; rfl
      have p2 : (FloatKind.f64.format.order infR b == some .gt) = true := by rw [oj, c_gt (by omega)]; rfl
      rw [if_neg h1] at hx
      by_cases h2 : V b = 0
      · have p3 : (FloatKind.f64.format.order b 0 == some .eq) = true := by rw [oz, c_eq h2]; rfl
        have HR : Ho (nxw b = 1) := ⟨by rw [hx, if_pos h2]⟩
        have rf := run_from 1 w
        have HC := Ho.mk (copysign_calls (a := 1) (b := infR) (by decide) hi)
        clear hn hi hb oi oj oz hm hle hx h1 hf h2
        go_enter Tryd.func77, Tryd.ntmps77
        go_wp2_with first
          | (go_at_call 76; (with_reducible refine (HN.out _).mono ?_); rintro _ _ ⟨rfl, rfl⟩)
          | (go_at_call 76; (with_reducible refine (HI.out _).mono ?_); rintro _ _ ⟨rfl, rfl⟩)
          | (go_at_call 96; (with_reducible refine (HC.out _).mono ?_); rintro _ _ ⟨rfl, rfl⟩)
        go_ret
        exact ⟨by rw [HR.out]; rfl, rfl⟩
      · have p3 : (FloatKind.f64.format.order b 0 == some .eq) = false := by
          rcases Int.lt_trichotomy (V b) 0 with q | q | q
          · rw [oz, c_lt q]; rfl
          · exact absurd q h2
          · rw [oz, c_gt q]; rfl
        rw [if_neg h2] at hx
        have rb := run_bits b w
        have rf := fun n => run_from n w
        by_cases h3 : V b < 0
        · have p4 : (FloatKind.f64.format.order b 0 == some .gt) = false := by rw [oz, c_lt h3]; rfl
          have hs : fneg b = true := lt_of_neg hb h3
          have hb1 : 1 ≤ b := by unfold fneg at hs; have := of_decide_eq_true hs; have : 0 < sgnW := by decide
                                 omega
          have HR : Ho ((b : Int).toNat - 1 = nxw b) := ⟨by rw [hx, if_pos hs]; omega⟩
          have b0 : (1 : Int) ≤ (b : Int) := by omega
          have b1 : (b : Int) ≤ 18446744073709551615 := by have : 2 * sgnW = 18446744073709551616 := rfl
                                                           omega
          clear hn hi hb oi oj oz hm hle hx h1 hf h2 h3 hs hb1
          generalize (b : Int) = bi at *
          go_enter Tryd.func77, Tryd.ntmps77
          go_wp2_with first
            | (go_at_call 76; (with_reducible refine (HN.out _).mono ?_); rintro _ _ ⟨rfl, rfl⟩)
            | (go_at_call 76; (with_reducible refine (HI.out _).mono ?_); rintro _ _ ⟨rfl, rfl⟩)
          go_ret
          exact ⟨by rw [← HR.out]; rfl, rfl⟩
        · have p4 : (FloatKind.f64.format.order b 0 == some .gt) = true := by rw [oz, c_gt (by omega)]; rfl
          have hs : fneg b = false := lt_of_pos hb (by omega)
          have hb1 : b < sgnW := by unfold fneg at hs; have := of_decide_eq_false hs; omega
          have HR : Ho (((b : Int) + 1).toNat = nxw b) := ⟨by rw [hx, if_neg (by rw [hs]; decide)]; omega⟩
          have b0 : (0 : Int) ≤ (b : Int) := by omega
          have b1 : (b : Int) ≤ 9223372036854775807 := by have : sgnW = 9223372036854775808 := rfl
                                                          omega
          clear hn hi hb oi oj oz hm hle hx h1 hf h2 h3 hs hb1
          generalize (b : Int) = bi at *
          go_enter Tryd.func77, Tryd.ntmps77
          go_wp2_with first
            | (go_at_call 76; (with_reducible refine (HN.out _).mono ?_); rintro _ _ ⟨rfl, rfl⟩)
            | (go_at_call 76; (with_reducible refine (HI.out _).mono ?_); rintro _ _ ⟨rfl, rfl⟩)
          go_ret
          exact ⟨by rw [← HR.out]; rfl, rfl⟩
theorem next_calls {b : Nat} (hb : b < 2 * sgnW) (w : World) : Calls Tryd.prog 44 #[.float .f64 b] w (Quiet w (.float .f64 (nxw b))) := by
  have HA := Ho.mk (after_calls hb)
  have HI := Ho.mk (inf_calls 1)
  clear hb
  go_enter Tryd.func44, Tryd.ntmps44
  go_wp2_with first
    | (go_at_call 71; (with_reducible refine (HI.out _).mono ?_); rintro _ _ ⟨rfl, rfl⟩)
    | (go_at_call 77; (with_reducible refine (HA.out _).mono ?_); rintro _ _ ⟨rfl, rfl⟩)
  go_ret
  exact ⟨rfl, rfl⟩
/-- What the reference's Next tells. -/
def nxr (b : Nat) : Nat := if infR < frung b then b else nx b
set_option maxRecDepth 100000 in
theorem rnext_calls {b : Nat} (hb : b < 2 * sgnW) (w : World) : Calls Tryd.prog 45 #[.float .f64 b] w (Quiet w (.float .f64 (nxr b))) := by
  have hi : infR < 2 * sgnW := by decide
  have hmx : (9218868437227405311 : Nat) < 2 * sgnW := by decide
  have fm : frung 9218868437227405311 = infR - 1 := by decide
  have vm : V 9218868437227405311 = (mag (infR - 1) : Int) := V_pos_word (by decide)
  by_cases hn : infR < frung b
  · have o1 : (FloatKind.f64.format.order b b != some .eq) = true := by rw [ord_no hb hb (.inl hn)]; rfl
    have HR : Ho (nxr b = b) := ⟨by unfold nxr; rw [if_pos hn]⟩
    clear hn hi hb hmx fm vm
    go_enter Tryd.func45, Tryd.ntmps45
    go_wp2
    go_ret
    exact ⟨by rw [HR.out]; rfl, rfl⟩
  · have hf : frung b ≤ infR := by omega
    have o1 : (FloatKind.f64.format.order b b != some .eq) = false := by rw [ord hb hb hf hf, c_eq rfl]; rfl
    have oi := ord hb hmx hf (by rw [fm]; omega)
    have oz := ord hb (b := 0) (by decide) hf (by decide)
    rw [vm] at oi
    rw [V_0] at oz
    have hm := mag_pos
    have hm1 : mag (infR - 1) < mag infR := mag_mono (by decide)
    have hm2 : ∀ r, r < infR → mag r ≤ mag (infR - 1) := fun r h => mag_le.2 (by omega)
    have hx : nxr b = nx b := by unfold nxr; rw [if_neg hn]
    unfold nx at hx
    by_cases h1 : V b = (mag infR : Int)
    · have p1 : (FloatKind.f64.format.order b 9218868437227405311 == some .gt) = true := by rw [oi, c_gt (by omega)]; rfl
      have HR : Ho (nxr b = b) := ⟨by rw [hx, if_pos h1]⟩
      clear hn hi hb oi oz hm hx h1 hf hmx fm vm hm1 hm2
      go_enter Tryd.func45, Tryd.ntmps45
      go_wp2
      go_ret
      exact ⟨by rw [HR.out]; rfl, rfl⟩
    · have hle : V b ≤ (mag (infR - 1) : Int) := by
        rcases Nat.lt_or_eq_of_le hf with q | q
        · have := hm2 _ q; unfold V sv; split <;> omega
        · unfold V sv at h1 ⊢; rw [q] at h1 ⊢; split at h1 <;> rename_i g
          · rw [if_pos g]; omega
          · omega
      have p1 : (FloatKind.f64.format.order b 9218868437227405311 == some .gt) = false := by
        rcases Int.lt_or_eq_of_le hle with q | q
        · rw [oi, c_lt q]; rfl
        · rw [oi, c_eq q]; rfl
      rw [if_neg h1] at hx
      by_cases h2 : V b = 0
      · have p3 : (FloatKind.f64.format.order b 0 == some .eq) = true := by rw [oz, c_eq h2]; rfl
        have HR : Ho (nxr b = 1) := ⟨by rw [hx, if_pos h2]⟩
        have rf := run_from 1 w
        clear hn hi hb oi oz hm hle hx h1 hf h2 hmx fm vm hm1 hm2
        go_enter Tryd.func45, Tryd.ntmps45
        go_wp2
        go_ret
        exact ⟨by rw [HR.out]; rfl, rfl⟩
      · have p3 : (FloatKind.f64.format.order b 0 == some .eq) = false := by
          rcases Int.lt_trichotomy (V b) 0 with q | q | q
          · rw [oz, c_lt q]; rfl
          · exact absurd q h2
          · rw [oz, c_gt q]; rfl
        rw [if_neg h2] at hx
        have rb := run_bits b w
        have rf := fun n => run_from n w
        by_cases h3 : V b < 0
        · have p4 : (FloatKind.f64.format.order b 0 == some .gt) = false := by rw [oz, c_lt h3]; rfl
          have hs : fneg b = true := lt_of_neg hb h3
          have hb1 : 1 ≤ b := by unfold fneg at hs; have := of_decide_eq_true hs; have : 0 < sgnW := by decide
                                 omega
          have HR : Ho ((b : Int).toNat - 1 = nxr b) := ⟨by rw [hx, if_pos hs]; omega⟩
          have b0 : (1 : Int) ≤ (b : Int) := by omega
          have b1 : (b : Int) ≤ 18446744073709551615 := by have : 2 * sgnW = 18446744073709551616 := rfl
                                                           omega
          clear hn hi hb oi oz hm hle hx h1 hf h2 h3 hs hb1 hmx fm vm hm1 hm2
          generalize (b : Int) = bi at *
          go_enter Tryd.func45, Tryd.ntmps45
          go_wp2
          go_ret
          exact ⟨by rw [← HR.out]; rfl, rfl⟩
        · have p4 : (FloatKind.f64.format.order b 0 == some .gt) = true := by rw [oz, c_gt (by omega)]; rfl
          have hs : fneg b = false := lt_of_pos hb (by omega)
          have hb1 : b < sgnW := by unfold fneg at hs; have := of_decide_eq_false hs; omega
          have HR : Ho (((b : Int) + 1).toNat = nxr b) := ⟨by rw [hx, if_neg (by rw [hs]; decide)]; omega⟩
          have b0 : (0 : Int) ≤ (b : Int) := by omega
          have b1 : (b : Int) ≤ 9223372036854775807 := by have : sgnW = 9223372036854775808 := rfl
                                                          omega
          clear hn hi hb oi oz hm hle hx h1 hf h2 h3 hs hb1 hmx fm vm hm1 hm2
          generalize (b : Int) = bi at *
          go_enter Tryd.func45, Tryd.ntmps45
          go_wp2
          go_ret
          exact ⟨by rw [← HR.out]; rfl, rfl⟩
/-- Alike: of one value, or both none. -/
def alike (a b : Nat) : Bool := FloatKind.f64.format.order a b == some .eq || (FloatKind.f64.format.order a a != some .eq && FloatKind.f64.format.order b b != some .eq)
theorem rsame_calls (a b : Nat) (w : World) : Calls Tryd.prog 43 #[.float .f64 a, .float .f64 b] w (Quiet w (.bool (alike a b))) := by
  unfold alike
  cases h1 : (FloatKind.f64.format.order a b == some .eq)
  · cases h2 : (FloatKind.f64.format.order a a != some .eq)
    · go_enter Tryd.func43, Tryd.ntmps43
      go_wp2
      go_ret
      exact ⟨rfl, rfl⟩
    · cases h3 : (FloatKind.f64.format.order b b != some .eq)
      all_goals
        go_enter Tryd.func43, Tryd.ntmps43
        go_wp2
        go_ret
        exact ⟨rfl, rfl⟩
  · go_enter Tryd.func43, Tryd.ntmps43
    go_wp2
    go_ret
    exact ⟨rfl, rfl⟩
end Go.Proofs.YtnmjnjhijcnbcaaDoor.G3

/-
  The walks of split, Same, Of (program's and reference's).
-/
namespace Go.Proofs.YtnmjnjhijcnbcaaDoor.G4
open Ieee Go Go.RowKit Go.Proofs.YtnmjnjhijcnbcaaDoor Go.Proofs.YtnmjnjhijcnbcaaDoor.Ow Go.Proofs.YtnmjnjhijcnbcaaDoor.Gp Go.Proofs.YtnmjnjhijcnbcaaDoor.Gq Go.Proofs.YtnmjnjhijcnbcaaDoor.G1 Go.Proofs.YtnmjnjhijcnbcaaDoor.G2 Go.Proofs.YtnmjnjhijcnbcaaDoor.G3 Go.Proofs.YtnmjnjhijcnbcaaDoor.F1

def w0 (b : Nat) : Int := ((b / sgnW : Nat) : Int)
def w1 (b : Nat) : Int := ((b / bn % 2048 : Nat) : Int)
def w2 (b : Nat) : Int := ((b % bn : Nat) : Int)
theorem split_calls {b : Nat} (hb : b < 2 * sgnW) (w : World) :
    Calls Tryd.prog 74 #[.float .f64 b] w (Tells w (.agg #[.int .i64 (w0 b), .int .i64 (w1 b), .int .i64 (w2 b)])) := by
  have rb := fun w => run_bits b w
  have d0 : (b : Int) / 9223372036854775808 = w0 b := rfl
  have d1 : bits .and .u64 ((b : Int) / 4503599627370496) 2047 = w1 b := and_2047 hb
  have d2 : bits .and .u64 (b : Int) 4503599627370495 = w2 b := and_frac hb
  have a0 : 0 ≤ w0 b := Int.natCast_nonneg _
  have a1 : w0 b ≤ 1 := by
    unfold w0
    have : b / sgnW < 2 := Nat.div_lt_of_lt_mul (by omega)
    omega
  have b0 : 0 ≤ w1 b := Int.natCast_nonneg _
  have b1 : w1 b ≤ 2047 := by unfold w1; omega
  have c0 : 0 ≤ w2 b := Int.natCast_nonneg _
  have c1 : w2 b ≤ 4503599627370495 := by
    unfold w2
    have : b % bn < 4503599627370496 := Nat.mod_lt _ (by decide)
    omega
  clear hb
  generalize w0 b = x0 at *
  generalize w1 b = x1 at *
  generalize w2 b = x2 at *
  go_enter Tryd.func74, Tryd.ntmps74
  go_wp2
  exact bodyPost_ret (v := .agg #[.int .i64 x0, .int .i64 x1, .int .i64 x2]) (by simp [results, Tryd.f74, go_sem]) rfl ⟨rfl, (Bel.refl w).alloc _⟩
/-- Two arrays of three ints, held against one another. -/
theorem eq3 (x0 x1 x2 y0 y1 y2 : Int) (w : World) : (Op.equalIn 10000 76 (.agg #[.int .i64 x0, .int .i64 x1, .int .i64 x2]) (.agg #[.int .i64 y0, .int .i64 y1, .int .i64 y2])).run Tryd.prog w = .ok (x0 == y0 && (x1 == y1 && x2 == y2)) w := by
  obtain ⟨i, hi⟩ := Option.isSome_iff_exists.1 (show (Tryd.prog.info? 3).isSome = true by kernel_rfl)
  have hu : Tryd.prog.underlying 76 = some (.array 3 3) := by kernel_rfl
  have hp : Tryd.prog.plainKey 3 = true := by kernel_rfl
  have hc : Tryd.prog.cellsOf 3 = 1 := by kernel_rfl
  have h3 : Tryd.prog.underlying 3 = some (.int .i64) := by kernel_rfl
  rw [show (10000 : Nat) = 9999 + 1 from rfl, run_equalIn_array w 9999 _ _ hu hi, hc, show List.range 3 = [0, 1, 2] from rfl]
  have p0 : ∀ a b c : Int, (part 3 #[Value.int .i64 a, .int .i64 b, .int .i64 c] (0 * 1)).run Tryd.prog w = .ok (.int .i64 a) w := fun a b c => run_part_plain w hp rfl
  have p1 : ∀ a b c : Int, (part 3 #[Value.int .i64 a, .int .i64 b, .int .i64 c] (1 * 1)).run Tryd.prog w = .ok (.int .i64 b) w := fun a b c => run_part_plain w hp rfl
  have p2 : ∀ a b c : Int, (part 3 #[Value.int .i64 a, .int .i64 b, .int .i64 c] (2 * 1)).run Tryd.prog w = .ok (.int .i64 c) w := fun a b c => run_part_plain w hp rfl
  have q : ∀ a b : Int, (Op.equalIn 9999 3 (.int .i64 a) (.int .i64 b)).run Tryd.prog w = .ok (a == b) w := fun a b => run_equalIn_int w 9998 3 .i64 .i64 a b h3
  simp only [Op.eqItems, Sem.run_bind, p0, p1, p2, Result.andThen_ok, q]
  cases x0 == y0
  · rfl
  · simp only [Op.eqItems, Sem.run_bind, p0, p1, p2, Result.andThen_ok, q, Bool.not_true, Bool.false_eq_true, if_false]
    cases x1 == y1
    · rfl
    · simp only [Op.eqItems, Sem.run_bind, p0, p1, p2, Result.andThen_ok, q, Bool.not_true, Bool.false_eq_true, if_false]
      cases x2 == y2 <;> rfl
theorem w_inj {a b : Nat} (h0 : w0 a = w0 b) (h1 : w1 a = w1 b) (h2 : w2 a = w2 b) (ha : a < 2 * sgnW) (hb : b < 2 * sgnW) : a = b := by
  unfold w0 at h0; unfold w1 at h1; unfold w2 at h2
  have e : sgnW = 2048 * bn := by decide
  have key : ∀ x : Nat, x = x / sgnW * sgnW + x / bn % 2048 * bn + x % bn := fun x => by
    have a1 := Nat.div_add_mod x bn
    have a2 := Nat.div_add_mod (x / bn) 2048
    rw [Nat.div_div_eq_div_mul, Nat.mul_comm bn 2048, ← e] at a2
    have a3 : x / bn * bn = (2048 * (x / sgnW) + x / bn % 2048) * bn := by rw [a2]
    rw [Nat.add_mul, Nat.mul_right_comm, ← e] at a3
    have a4 := Nat.mul_comm bn (x / bn)
    have a5 := Nat.mul_comm sgnW (x / sgnW)
    omega
  have ka := key a
  rw [show a / sgnW = b / sgnW by omega, show a / bn % 2048 = b / bn % 2048 by omega, show a % bn = b % bn by omega] at ka
  exact ka.trans (key b).symm
theorem alike_self {a : Nat} (ha : a < 2 * sgnW) : alike a a = true := by
  unfold alike
  rcases Nat.lt_or_ge infR (frung a) with q | q
  · rw [ord_no ha ha (.inl q)]; rfl
  · rw [ord ha ha q q, c_eq rfl]; rfl
set_option maxRecDepth 100000 in
theorem same_calls {a b : Nat} (ha : a < 2 * sgnW) (hb : b < 2 * sgnW) (w : World) :
    Calls Tryd.prog 42 #[.float .f64 a, .float .f64 b] w (Tells w (.bool (alike a b))) := by
  have SA := Ho.mk (split_calls ha)
  have SB := Ho.mk (split_calls hb)
  have NA := Ho.mk (isNaN_calls a)
  have NB := Ho.mk (isNaN_calls b)
  have HE : Ho ((w0 a == w0 b && (w1 a == w1 b && w2 a == w2 b)) = true → alike a b = true) := ⟨fun h => by
    simp only [Bool.and_eq_true, beq_iff_eq] at h
    have := w_inj h.1 h.2.1 h.2.2 ha hb
    subst this; exact alike_self ha⟩
  have eqW := fun w => eq3 (w0 a) (w1 a) (w2 a) (w0 b) (w1 b) (w2 b) w
  clear ha hb
  generalize w0 a = x0 at *
  generalize w1 a = x1 at *
  generalize w2 a = x2 at *
  generalize w0 b = y0 at *
  generalize w1 b = y1 at *
  generalize w2 b = y2 at *
  generalize (x0 == y0 && (x1 == y1 && x2 == y2)) = E at *
  unfold alike at HE ⊢
  cases E
  · clear HE
    cases h1 : (FloatKind.f64.format.order a b == some .eq)
    · cases h2 : (FloatKind.f64.format.order a a != some .eq)
      · rw [h2] at NA
        go_enter Tryd.func42, Tryd.ntmps42
        go_wp2_with first
          | (go_at_call 74; first | ((with_reducible refine (SA.out _).mono ?_); rintro _ w1 ⟨rfl, hb1⟩; have HB1 := Ho.mk hb1; clear hb1) | ((with_reducible refine (SB.out _).mono ?_); rintro _ w2 ⟨rfl, hb2⟩; have HB2 := Ho.mk (HB1.out.trans hb2); clear hb2))
          | (go_at_call 76; (first | (with_reducible refine (NA.out _).mono ?_) | (with_reducible refine (NB.out _).mono ?_)); rintro _ _ ⟨rfl, rfl⟩)
          | (simp only [eqW])
        go_ret
        exact ⟨rfl, HB2.out⟩
      · rw [h2] at NA
        cases h3 : (FloatKind.f64.format.order b b != some .eq)
        all_goals
          rw [h3] at NB
          go_enter Tryd.func42, Tryd.ntmps42
          go_wp2_with first
            | (go_at_call 74; first | ((with_reducible refine (SA.out _).mono ?_); rintro _ w1 ⟨rfl, hb1⟩; have HB1 := Ho.mk hb1; clear hb1) | ((with_reducible refine (SB.out _).mono ?_); rintro _ w2 ⟨rfl, hb2⟩; have HB2 := Ho.mk (HB1.out.trans hb2); clear hb2))
            | (go_at_call 76; (first | (with_reducible refine (NA.out _).mono ?_) | (with_reducible refine (NB.out _).mono ?_)); rintro _ _ ⟨rfl, rfl⟩)
            | (simp only [eqW])
          go_ret
          exact ⟨rfl, HB2.out⟩
    · go_enter Tryd.func42, Tryd.ntmps42
      go_wp2_with first
        | (go_at_call 74; first | ((with_reducible refine (SA.out _).mono ?_); rintro _ w1 ⟨rfl, hb1⟩; have HB1 := Ho.mk hb1; clear hb1) | ((with_reducible refine (SB.out _).mono ?_); rintro _ w2 ⟨rfl, hb2⟩; have HB2 := Ho.mk (HB1.out.trans hb2); clear hb2))
        | (go_at_call 76; (first | (with_reducible refine (NA.out _).mono ?_) | (with_reducible refine (NB.out _).mono ?_)); rintro _ _ ⟨rfl, rfl⟩)
        | (simp only [eqW])
      go_ret
      exact ⟨rfl, HB2.out⟩
  · rw [HE.out rfl]
    clear HE
    go_enter Tryd.func42, Tryd.ntmps42
    go_wp2_with first
      | (go_at_call 74; first | ((with_reducible refine (SA.out _).mono ?_); rintro _ w1 ⟨rfl, hb1⟩; have HB1 := Ho.mk hb1; clear hb1) | ((with_reducible refine (SB.out _).mono ?_); rintro _ w2 ⟨rfl, hb2⟩; have HB2 := Ho.mk (HB1.out.trans hb2); clear hb2))
      | (go_at_call 76; (first | (with_reducible refine (NA.out _).mono ?_) | (with_reducible refine (NB.out _).mono ?_)); rintro _ _ ⟨rfl, rfl⟩)
      | (simp only [eqW])
    go_ret
    exact ⟨rfl, HB2.out⟩
end Go.Proofs.YtnmjnjhijcnbcaaDoor.G4
