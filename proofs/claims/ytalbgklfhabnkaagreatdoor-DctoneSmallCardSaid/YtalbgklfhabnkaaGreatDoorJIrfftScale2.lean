/-
  Joined, of what this claim leans on: GA, T0, I0, V1, I1, Nb, Nc, F4, F0, I2.
-/
import Ieee.Arith
import Derived.Laws.Externs
import Derived.Laws.FloatArith
import Derived.Laws.BitsAllLaws
import Derived.ChangeKeysEq
import Derived.Deep.RegionHeld3
import Derived.RangeFuncNested
import Derived.RangeFuncBound
import Derived.RangeFuncCalls
import Derived.RangeFuncLeaves
import Derived.RangeFuncBox
import Derived.Shelf.Abstract
import Derived.Shelf.RegionOpen
import Derived.OwnWalkIn
import Derived.TacticsInMore
import Derived.LoopNIn
import Derived.LoopIn
import Derived.Deep.DrawnRows
import Derived.Deep.QuietTactic
import Derived.BigQuiet
import Derived.Deep.RegionWith
import Derived.Deep.DeepCutAuto
import Derived.Test.YtalbgklfhabnkaaGreatDoorJIrfftScale1
set_option linter.unusedVariables false
set_option linter.unusedSimpArgs false
set_option maxRecDepth 100000
set_option maxHeartbeats 16000000
namespace Go.Proofs.YtalbgklfhabnkaaGreatDoor
namespace Gp
def bn : Nat := 4503599627370496
theorem bn_eq : bn = 2 ^ 52 := rfl
def infR : Nat := 9218868437227405312
def mag (r : Nat) : Nat := if r < bn then r else (bn + r % bn) * 2 ^ (r / bn - 1)
theorem mag_at (j n : Nat) (h : n ≤ 2 * bn) (hj : j = 0 ∨ bn ≤ n) : mag (j * bn + n) = n * 2 ^ j := by
 have hb : 0 < bn := by decide
 unfold mag
 rcases Nat.lt_or_ge n bn with h1 | h1
 ·have : j = 0 := by omega
  subst this
  rw [if_pos (by omega)]; omega
 ·rcases Nat.lt_or_ge n (2 * bn) with h2 | h2
  ·have e : j * bn + n = (j + 1) * bn + (n - bn) := by rw [Nat.add_mul]; omega
   have e1 : (j * bn + n) % bn = n - bn := by rw [e, Nat.mul_comm, Nat.mul_add_mod, Nat.mod_eq_of_lt (by omega)]
   have e2 : (j * bn + n) / bn = j + 1 := by rw [e, Nat.mul_comm, Nat.mul_add_div hb, Nat.div_eq_of_lt (by omega)]
   rw [if_neg (by have := Nat.zero_le (j * bn); omega), e1, e2, Nat.add_sub_cancel, show bn + (n - bn) = n from by omega]
  ·have hn : n = 2 * bn := by omega
   subst hn
   have e : j * bn + 2 * bn = (j + 2) * bn := by rw [Nat.add_mul]
   have e1 : (j * bn + 2 * bn) % bn = 0 := by rw [e, Nat.mul_mod_left]
   have e2 : (j * bn + 2 * bn) / bn = j + 2 := by rw [e, Nat.mul_div_cancel _ hb]
   rw [if_neg (by have := Nat.zero_le (j * bn); omega), e1, e2, show j + 2 - 1 = j + 1 from by omega, Nat.pow_succ, Nat.add_zero, Nat.mul_comm 2 bn, Nat.mul_assoc, Nat.mul_comm (2 ^ j) 2]
def plc (r : Nat) : Nat := r / bn - 1
def sig (r : Nat) : Nat := if r < bn then r else bn + r % bn
theorem rung_split (r : Nat) : r = plc r * bn + sig r ∧ sig r < 2 * bn ∧ (plc r = 0 ∨ bn ≤ sig r) ∧ mag r = sig r * 2 ^ plc r := by
 have hb : 0 < bn := by decide
 unfold plc sig mag
 split
 ·rename_i h
  rw [Nat.div_eq_of_lt h]
  refine ⟨by omega, by omega, .inl (by omega), by simp⟩
 ·rename_i h
  have hm := Nat.mod_lt r hb
  have hd := Nat.div_add_mod r bn
  have hq : 1 ≤ r / bn := Nat.div_pos (by omega) hb
  refine ⟨?_, by omega, .inr (by omega), rfl⟩
  obtain ⟨q, hq'⟩ : ∃ q, r / bn = q + 1 := ⟨r / bn - 1, by omega⟩
  rw [hq'] at hd ⊢
  rw [Nat.add_sub_cancel]
  rw [Nat.mul_add, Nat.mul_one, Nat.mul_comm] at hd
  omega
theorem mag_succ (r : Nat) : mag (r + 1) = mag r + 2 ^ plc r := by
 obtain ⟨h1, h2, h3, h4⟩ := rung_split r
 have := mag_at (plc r) (sig r + 1) (by omega) (by omega)
 rw [← Nat.add_assoc, ← h1] at this
 rw [this, h4, Nat.add_mul, Nat.one_mul]
theorem mag_lt_succ (r : Nat) : mag r < mag (r + 1) := by
 rw [mag_succ]; have := Nat.two_pow_pos (plc r); omega
theorem mag_mono {r s : Nat} (h : r < s) : mag r < mag s := by
 induction s with
 | zero => omega
 | succ s ih =>
  rcases Nat.lt_or_eq_of_le (Nat.lt_succ_iff.1 h) with h1 | h1
  ·exact Nat.lt_trans (ih h1) (mag_lt_succ s)
  ·subst h1; exact mag_lt_succ r
theorem mag_le {r s : Nat} : mag r ≤ mag s ↔ r ≤ s := by
 constructor
 ·intro h
  rcases Nat.lt_or_ge s r with h1 | h1
  ·have := mag_mono h1; omega
  ·exact h1
 ·intro h
  rcases Nat.lt_or_eq_of_le h with h1 | h1
  ·exact Nat.le_of_lt (mag_mono h1)
  ·rw [h1]; exact Nat.le_refl _
theorem mag_lt {r s : Nat} : mag r < mag s ↔ r < s := by
 rw [← Nat.not_le, mag_le, Nat.not_le]
theorem mag_inj {r s : Nat} (h : mag r = mag s) : r = s := Nat.le_antisymm (mag_le.1 (Nat.le_of_eq h)) (mag_le.1 (Nat.le_of_eq h.symm))
theorem mag_zero : mag 0 = 0 := by unfold mag; rw [if_pos (by decide)]
structure Rnd (X s r : Nat) : Prop where
 up : 2 * X ≤ (mag r + mag (r + 1)) * 2 ^ s
 upE : 2 * X = (mag r + mag (r + 1)) * 2 ^ s → r % 2 = 0
 dn : 0 < r → (mag (r - 1) + mag r) * 2 ^ s ≤ 2 * X
 dnE : 0 < r → (mag (r - 1) + mag r) * 2 ^ s = 2 * X → r % 2 = 0
theorem Rnd.uniq {X s r t : Nat} (h : Rnd X s r) (k : Rnd X s t) : r = t := by
 have key : ∀ {r t : Nat}, Rnd X s r → Rnd X s t → ¬ r < t := by
  intro r t h k hlt
  have hp := Nat.two_pow_pos s
  have d := k.dn (by omega)
  have u := h.up
  have m1 : mag r ≤ mag (t - 1) := mag_le.2 (by omega)
  have m2 : mag (r + 1) ≤ mag t := mag_le.2 (by omega)
  have m3 : (mag r + mag (r + 1)) * 2 ^ s ≤ (mag (t - 1) + mag t) * 2 ^ s := Nat.mul_le_mul_right _ (by omega)
  have e1 : 2 * X = (mag r + mag (r + 1)) * 2 ^ s := by omega
  have e2 : (mag (t - 1) + mag t) * 2 ^ s = 2 * X := by omega
  have r1 := h.upE e1
  have r2 := k.dnE (by omega) e2
  have e3 : (mag r + mag (r + 1)) * 2 ^ s = (mag (t - 1) + mag t) * 2 ^ s := by omega
  have e4 := Nat.eq_of_mul_eq_mul_right hp e3
  have e5 : mag r = mag (t - 1) := by omega
  have := mag_inj e5
  omega
 rcases Nat.lt_trichotomy r t with h1 | h1 | h1
 ·exact absurd h1 (key h k)
 ·exact h1
 ·exact absurd h1 (key k h)
structure Half (X d n : Nat) : Prop where
 up : 2 * X ≤ (2 * n + 1) * 2 ^ d
 upE : 2 * X = (2 * n + 1) * 2 ^ d → n % 2 = 0
 dn : 0 < n → (2 * n - 1) * 2 ^ d ≤ 2 * X
 dnE : 0 < n → (2 * n - 1) * 2 ^ d = 2 * X → n % 2 = 0
theorem rnd_of {X s j n : Nat} (h : Half X (s + j) n) (hj : j = 0 ∨ bn * 2 ^ (s + j) ≤ X) (hn : n ≤ 2 * bn) (hX : j = 0 ∨ bn ≤ n) : Rnd X s (j * bn + n) := by
 have hp := Nat.two_pow_pos s
 have hpj := Nat.two_pow_pos j
 have e0 := mag_at j n hn hX
 have e1 : (n + 1) * 2 ^ j ≤ mag (j * bn + n + 1) := by
  rw [mag_succ, e0, Nat.add_mul, Nat.one_mul]
  refine Nat.add_le_add_left (Nat.pow_le_pow_right (by decide) ?_) _
  unfold plc
  have hb : 0 < bn := by decide
  rcases hX with h0 | h0
  ·subst h0; omega
  ·have : (j + 1) * bn ≤ j * bn + n := by rw [Nat.add_mul]; omega
   have := (Nat.le_div_iff_mul_le hb).2 this
   omega
 have par : (j * bn + n) % 2 = n % 2 := by
  have : j * bn = 2 * (j * 2251799813685248) := by unfold bn; omega
  omega
 have sp : ∀ a : Nat, a * 2 ^ (s + j) = a * 2 ^ j * 2 ^ s := fun a => by rw [Nat.pow_add, Nat.mul_comm (2 ^ s), Nat.mul_assoc]
 have up1 : (2 * n + 1) * 2 ^ (s + j) ≤ (mag (j * bn + n) + mag (j * bn + n + 1)) * 2 ^ s := by
  rw [sp, e0]
  refine Nat.mul_le_mul_right _ ?_
  have : (2 * n + 1) * 2 ^ j = n * 2 ^ j + (n + 1) * 2 ^ j := by rw [← Nat.add_mul]; congr 1; omega
  omega
 refine ⟨Nat.le_trans h.up up1, fun q => ?_, fun h0 => ?_, fun h0 q => ?_⟩
 ·rw [par]; exact h.upE (by have := h.up; omega)
 all_goals
  rcases Nat.eq_zero_or_pos n with hn0 | hn0
  ·exfalso
   subst hn0
   rcases hX with h1 | h1
   ·subst h1; simp at h0
   ·have : 0 < bn := by decide
    omega
 ·-- lower half
  rcases Nat.lt_or_ge bn n with hb | hb
  ·have e2 : mag (j * bn + n - 1) = (n - 1) * 2 ^ j := by
    rw [Nat.add_sub_assoc hn0]; exact mag_at j (n - 1) (by omega) (.inr (by omega))
   have : (mag (j * bn + n - 1) + mag (j * bn + n)) * 2 ^ s = (2 * n - 1) * 2 ^ (s + j) := by
    rw [sp, e0, e2, ← Nat.add_mul]; congr 2; omega
   rw [this]; exact h.dn hn0
  ·rcases Nat.eq_zero_or_pos j with hj0 | hj0
   ·subst hj0
    have e2 : mag (0 * bn + n - 1) = n - 1 := by
     have := mag_at 0 (n - 1) (by omega) (.inl rfl)
     rw [Nat.zero_mul, Nat.zero_add, Nat.pow_zero, Nat.mul_one] at this
     rw [Nat.zero_mul, Nat.zero_add]; exact this
    have : (mag (0 * bn + n - 1) + mag (0 * bn + n)) * 2 ^ s = (2 * n - 1) * 2 ^ (s + 0) := by
     rw [e0, e2, Nat.pow_zero, Nat.mul_one, Nat.add_zero]; congr 1; omega
    rw [this]; exact h.dn hn0
   ·have hbX : bn * 2 ^ (s + j) ≤ X := by omega
    have hle : mag (j * bn + n - 1) ≤ mag (j * bn + n) := mag_le.2 (by omega)
    have hnb : n = bn := by omega
    subst hnb
    have : (mag (j * bn + bn - 1) + mag (j * bn + bn)) * 2 ^ s ≤ 2 * (bn * 2 ^ (s + j)) := by
     rw [sp, ← Nat.mul_assoc]
     refine Nat.mul_le_mul_right _ ?_
     omega
    omega
 ·rcases Nat.lt_or_ge bn n with hb | hb
  ·have e2 : mag (j * bn + n - 1) = (n - 1) * 2 ^ j := by
    rw [Nat.add_sub_assoc hn0]; exact mag_at j (n - 1) (by omega) (.inr (by omega))
   have : (mag (j * bn + n - 1) + mag (j * bn + n)) * 2 ^ s = (2 * n - 1) * 2 ^ (s + j) := by
    rw [sp, e0, e2, ← Nat.add_mul]; congr 2; omega
   rw [par]; exact h.dnE hn0 (by omega)
  ·rcases Nat.eq_zero_or_pos j with hj0 | hj0
   ·subst hj0
    have e2 : mag (0 * bn + n - 1) = n - 1 := by
     have := mag_at 0 (n - 1) (by omega) (.inl rfl)
     rw [Nat.zero_mul, Nat.zero_add, Nat.pow_zero, Nat.mul_one] at this
     rw [Nat.zero_mul, Nat.zero_add]; exact this
    have : (mag (0 * bn + n - 1) + mag (0 * bn + n)) * 2 ^ s = (2 * n - 1) * 2 ^ (s + 0) := by
     rw [e0, e2, Nat.pow_zero, Nat.mul_one, Nat.add_zero]; congr 1; omega
    rw [par]; exact h.dnE hn0 (by omega)
   ·exfalso
    have hbX : bn * 2 ^ (s + j) ≤ X := by omega
    have hlt : mag (j * bn + n - 1) < mag (j * bn + n) := mag_lt.2 (by omega)
    have hnb : n = bn := by omega
    subst hnb
    have : (mag (j * bn + bn - 1) + mag (j * bn + bn)) * 2 ^ s < 2 * (bn * 2 ^ (s + j)) := by
     rw [sp, ← Nat.mul_assoc]
     refine Nat.mul_lt_mul_of_pos_right ?_ hp
     omega
    omega
theorem Half.scale {X d n : Nat} (h : Half X d n) (a : Nat) : Half (X * 2 ^ a) (d + a) n := by
 have hp := Nat.two_pow_pos a
 have e1 : ∀ b : Nat, b * 2 ^ (d + a) = b * 2 ^ d * 2 ^ a := fun b => by rw [Nat.pow_add, Nat.mul_assoc]
 refine ⟨?_, fun q => ?_, fun h0 => ?_, fun h0 q => ?_⟩
 ·rw [e1, ← Nat.mul_assoc]; exact Nat.mul_le_mul_right _ h.up
 ·rw [e1, ← Nat.mul_assoc] at q; exact h.upE (Nat.eq_of_mul_eq_mul_right hp q)
 ·rw [e1, ← Nat.mul_assoc]; exact Nat.mul_le_mul_right _ (h.dn h0)
 ·rw [e1, ← Nat.mul_assoc] at q; exact h.dnE h0 (Nat.eq_of_mul_eq_mul_right hp q)
theorem half_exact (n d : Nat) : Half (n * 2 ^ d) d n := by
 have hp := Nat.two_pow_pos d
 refine ⟨?_, fun q => ?_, fun h0 => ?_, fun h0 q => ?_⟩
 ·rw [← Nat.mul_assoc]; exact Nat.mul_le_mul_right _ (by omega)
 ·rw [← Nat.mul_assoc] at q; have := Nat.eq_of_mul_eq_mul_right hp q; omega
 ·rw [← Nat.mul_assoc]; exact Nat.mul_le_mul_right _ (by omega)
 ·rw [← Nat.mul_assoc] at q; have := Nat.eq_of_mul_eq_mul_right hp q; omega
def rhe (X d : Nat) : Nat := X / 2 ^ d + (if 2 ^ d < 2 * (X % 2 ^ d) then 1 else if 2 ^ d = 2 * (X % 2 ^ d) then X / 2 ^ d % 2 else 0)
theorem rhe_facts (q r P n : Nat) (hp : 0 < P) (hm : r < P) (hn : n = q + (if P < 2 * r then 1 else if P = 2 * r then q % 2 else 0)) :
  2 * (q * P + r) ≤ (2 * n + 1) * P ∧ (2 * (q * P + r) = (2 * n + 1) * P → n % 2 = 0) ∧ (0 < n → (2 * n - 1) * P ≤ 2 * (q * P + r)) ∧ (0 < n → (2 * n - 1) * P = 2 * (q * P + r) → n % 2 = 0) := by
 have ex : ∀ b : Nat, (2 * b + 1) * P = 2 * (b * P) + P := fun b => by rw [Nat.add_mul, Nat.one_mul, Nat.mul_assoc]
 have ex2 : ∀ b : Nat, (2 * (b + 1) - 1) * P = 2 * (b * P) + P := fun b => by rw [show 2 * (b + 1) - 1 = 2 * b + 1 from by omega, ex]
 have ex3 : ∀ b : Nat, 0 < b → (2 * b - 1) * P + P = 2 * (b * P) := fun b hb => by
  rw [← Nat.succ_mul, show (2 * b - 1).succ = 2 * b from by omega, Nat.mul_assoc]
 by_cases h1 : P < 2 * r
 ·rw [if_pos h1] at hn
  subst hn
  refine ⟨?_, fun e => ?_, fun _ => ?_, fun _ e => ?_⟩
  ·rw [ex, Nat.add_mul, Nat.one_mul]; omega
  ·rw [ex, Nat.add_mul, Nat.one_mul] at e; omega
  ·rw [ex2]; omega
  ·rw [ex2] at e; omega
 ·rw [if_neg h1] at hn
  by_cases h2 : P = 2 * r
  ·rw [if_pos h2] at hn
   rcases Nat.mod_two_eq_zero_or_one q with h3 | h3
   ·rw [h3, Nat.add_zero] at hn
    subst hn
    refine ⟨by rw [ex]; omega, fun _ => h3, fun h0 => ?_, fun h0 e => h3⟩
    have := ex3 n h0; omega
   ·rw [h3] at hn
    subst hn
    refine ⟨?_, fun e => ?_, fun _ => by rw [ex2]; omega, fun _ e => by omega⟩
    ·rw [ex, Nat.add_mul, Nat.one_mul]; omega
    ·omega
  ·rw [if_neg h2, Nat.add_zero] at hn
   subst hn
   refine ⟨by rw [ex]; omega, fun e => ?_, fun h0 => ?_, fun h0 e => ?_⟩
   ·rw [ex] at e; omega
   ·have := ex3 n h0; omega
   ·have := ex3 n h0; omega
theorem half_rhe (X d : Nat) : Half X d (rhe X d) := by
 have hp := Nat.two_pow_pos d
 have hd := Nat.div_add_mod X (2 ^ d)
 have hm := Nat.mod_lt X hp
 have := rhe_facts (X / 2 ^ d) (X % 2 ^ d) (2 ^ d) (rhe X d) hp hm rfl
 rw [Nat.mul_comm (X / 2 ^ d), hd] at this
 exact ⟨this.1, this.2.1, this.2.2.1, this.2.2.2⟩
theorem Half.le {X d n b : Nat} (h : Half X d n) (hb : X ≤ b * 2 ^ d) : n ≤ b := by
 rcases Nat.lt_or_ge b n with h1 | h1
 ·have hp := Nat.two_pow_pos d
  have h2 := h.dn (by omega)
  have h3 : (2 * b + 1) * 2 ^ d ≤ (2 * n - 1) * 2 ^ d := Nat.mul_le_mul_right _ (by omega)
  rw [Nat.add_mul, Nat.one_mul, Nat.mul_assoc] at h3
  omega
 ·exact h1
theorem Half.ge {X d n b : Nat} (h : Half X d n) (hb : b * 2 ^ d ≤ X) : b ≤ n := by
 rcases Nat.lt_or_ge n b with h1 | h1
 ·have hp := Nat.two_pow_pos d
  have h2 := h.up
  have h3 : (2 * n + 1) * 2 ^ d + 2 ^ d ≤ 2 * (b * 2 ^ d) := by
   rw [← Nat.succ_mul, ← Nat.mul_assoc]; exact Nat.mul_le_mul_right _ (by omega)
  omega
 ·exact h1
def rung (X s : Nat) : Nat := if X = 0 then 0 else (Nat.log2 X - (52 + s)) * bn + rhe X (s + (Nat.log2 X - (52 + s)))
theorem rung_half {X s n : Nat} (h0 : X ≠ 0) (h : Half X (s + (Nat.log2 X - (52 + s))) n) : Rnd X s ((Nat.log2 X - (52 + s)) * bn + n) := by
 have l1 := Nat.log2_self_le h0
 have l2 := @Nat.lt_log2_self X
 generalize Nat.log2 X = t at *
 have hX : t - (52 + s) = 0 ∨ bn * 2 ^ (s + (t - (52 + s))) ≤ X := by
  rcases Nat.eq_zero_or_pos (t - (52 + s)) with q | q
  ·exact .inl q
  ·right
   rw [bn_eq, ← Nat.pow_add, show 52 + (s + (t - (52 + s))) = t from by omega]; exact l1
 refine rnd_of h hX (h.le ?_) (hX.imp id (fun q => h.ge q))
 have : 2 * bn * 2 ^ (s + (t - (52 + s))) = 2 ^ (53 + (s + (t - (52 + s)))) := by rw [show 2 * bn = 2 ^ 53 from rfl, ← Nat.pow_add]
 rw [this]
 exact Nat.le_of_lt (Nat.lt_of_lt_of_le l2 (Nat.pow_le_pow_right (by decide) (by omega)))
theorem rnd_zero (s : Nat) : Rnd 0 s 0 := ⟨by omega, fun _ => rfl, fun h => by omega, fun h => by omega⟩
theorem rnd_rung (X s : Nat) : Rnd X s (rung X s) := by
 unfold rung
 split
 ·rename_i h; subst h; exact rnd_zero s
 ·rename_i h; exact rung_half h (half_rhe _ _)
theorem Rnd.rung {X s r : Nat} (h : Rnd X s r) : rung X s = r := (rnd_rung X s).uniq h
theorem Rnd.scale {X s r : Nat} (h : Rnd X s r) (a : Nat) : Rnd (X * 2 ^ a) (s + a) r := by
 have hp := Nat.two_pow_pos a
 have e1 : ∀ b : Nat, b * 2 ^ (s + a) = b * 2 ^ s * 2 ^ a := fun b => by rw [Nat.pow_add, Nat.mul_assoc]
 refine ⟨?_, fun q => ?_, fun h0 => ?_, fun h0 q => ?_⟩
 ·rw [e1, ← Nat.mul_assoc]; exact Nat.mul_le_mul_right _ h.up
 ·rw [e1, ← Nat.mul_assoc] at q; exact h.upE (Nat.eq_of_mul_eq_mul_right hp q)
 ·rw [e1, ← Nat.mul_assoc]; exact Nat.mul_le_mul_right _ (h.dn h0)
 ·rw [e1, ← Nat.mul_assoc] at q; exact h.dnE h0 (Nat.eq_of_mul_eq_mul_right hp q)
theorem rung_scale (X s a : Nat) : rung (X * 2 ^ a) (s + a) = rung X s := ((rnd_rung X s).scale a).rung
theorem rnd_exact (r s : Nat) : Rnd (mag r * 2 ^ s) s r := by
 have hp := Nat.two_pow_pos s
 have h1 := mag_lt_succ r
 refine ⟨?_, fun q => ?_, fun h0 => ?_, fun h0 q => ?_⟩
 ·rw [← Nat.mul_assoc]; exact Nat.mul_le_mul_right _ (by omega)
 ·rw [← Nat.mul_assoc] at q; have := Nat.eq_of_mul_eq_mul_right hp q; omega
 ·have := mag_mono (show r - 1 < r by omega)
  rw [← Nat.mul_assoc]; exact Nat.mul_le_mul_right _ (by omega)
 ·have := mag_mono (show r - 1 < r by omega)
  rw [← Nat.mul_assoc] at q; have := Nat.eq_of_mul_eq_mul_right hp q; omega
theorem rung_exact (r s : Nat) : rung (mag r * 2 ^ s) s = r := (rnd_exact r s).rung
theorem rung_mono {X Y s : Nat} (h : X ≤ Y) : rung X s ≤ rung Y s := by
 have hx := rnd_rung X s
 have hy := rnd_rung Y s
 generalize rung X s = r at *
 generalize rung Y s = t at *
 rcases Nat.lt_or_ge t r with h1 | h1
 ·exfalso
  have d := hx.dn (by omega)
  have u := hy.up
  have m1 : mag t ≤ mag (r - 1) := mag_le.2 (by omega)
  have m2 : mag (t + 1) ≤ mag r := mag_le.2 (by omega)
  have m3 : (mag t + mag (t + 1)) * 2 ^ s ≤ (mag (r - 1) + mag r) * 2 ^ s := Nat.mul_le_mul_right _ (by omega)
  have e1 : 2 * Y = (mag t + mag (t + 1)) * 2 ^ s := by omega
  have e2 : (mag (r - 1) + mag r) * 2 ^ s = 2 * X := by omega
  have r1 := hy.upE e1
  have r2 := hx.dnE (by omega) e2
  have e3 : (mag t + mag (t + 1)) * 2 ^ s = (mag (r - 1) + mag r) * 2 ^ s := by omega
  have e4 := Nat.eq_of_mul_eq_mul_right (Nat.two_pow_pos s) e3
  have e5 : mag t = mag (r - 1) := by omega
  have := mag_inj e5
  omega
 ·exact h1
open Ieee
theorem signW : double.signWeight = 9223372036854775808 := by decide
theorem infRg : double.infRung = infR := by decide
theorem bnd : double.binade = bn := by decide
theorem least : double.leastPlace = -1074 := by decide
theorem cut_half (neg : Bool) (n d : Nat) : Half n d (Toward.even.cut neg n d) := by
 have key : Toward.even.cut neg n d = rhe n d := by
  unfold Toward.cut rhe
  simp only [Nat.one_shiftLeft]
  rcases Nat.lt_or_ge (n.log2 + 2) d with h | h
  ·rw [Nat.min_eq_right (by omega)]
   have hn : n < 2 ^ (n.log2 + 1) := Nat.lt_log2_self
   have h2 : 2 ^ (n.log2 + 2) = 2 * 2 ^ (n.log2 + 1) := by rw [Nat.pow_succ, Nat.mul_comm]
   have h3 : 2 ^ (n.log2 + 2) ≤ 2 ^ d := Nat.pow_le_pow_right (by decide) (by omega)
   have a1 : n / 2 ^ (n.log2 + 2) = 0 := Nat.div_eq_of_lt (by omega)
   have a2 : n % 2 ^ (n.log2 + 2) = n := Nat.mod_eq_of_lt (by omega)
   have a3 : n / 2 ^ d = 0 := Nat.div_eq_of_lt (by omega)
   have a4 : n % 2 ^ d = n := Nat.mod_eq_of_lt (by omega)
   rw [a1, a2, a3, a4, if_neg (by omega)]
   have : decide (2 ^ (n.log2 + 2) < 2 * n) = false := decide_eq_false (by omega)
   rw [this]
   simp
  ·rw [Nat.min_eq_left h]
   congr 1
   by_cases h1 : 2 ^ d < 2 * (n % 2 ^ d)
   ·simp [h1]
   ·by_cases h2 : 2 ^ d = 2 * (n % 2 ^ d)
    ·rcases Nat.mod_two_eq_zero_or_one (n / 2 ^ d) with h3 | h3 <;> simp [h3, ← h2]
    ·simp [h1, h2]
 rw [key]; exact half_rhe n d
def toX (m : Nat) (p : Int) : Nat := m * 2 ^ (p + 1074).toNat
def toS (p : Int) : Nat := (-1074 - p).toNat
theorem log2_shift (m a : Nat) (h : m ≠ 0) : Nat.log2 (m * 2 ^ a) = Nat.log2 m + a := by
 have hp := Nat.two_pow_pos a
 have h1 := Nat.log2_self_le h
 have h2 := @Nat.lt_log2_self m
 apply (Nat.log2_eq_iff (Nat.mul_ne_zero h (by omega))).2
 refine ⟨by rw [Nat.pow_add]; exact Nat.mul_le_mul_right _ h1, ?_⟩
 rw [show m.log2 + a + 1 = (m.log2 + 1) + a from by omega, Nat.pow_add]
 exact Nat.mul_lt_mul_of_pos_right h2 hp
theorem nearest_rung (neg : Bool) (m : Nat) (p : Int) (h : m ≠ 0) : double.nearest neg m p = double.word neg (min (rung (toX m p) (toS p)) infR) := by
 unfold Format.nearest
 rw [if_neg h, infRg, bnd, least]
 dsimp only
 congr 2
 symm
 apply Rnd.rung
 have hX : toX m p ≠ 0 := by unfold toX; exact Nat.mul_ne_zero h (by have := Nat.two_pow_pos (p + 1074).toNat; omega)
 have hl : Nat.log2 (toX m p) = Nat.log2 m + (p + 1074).toNat := log2_shift _ _ h
 have hj : (max (p + (m.log2 : Int) - (double.fractionBits : Nat)) (-1074) - -1074).toNat = Nat.log2 (toX m p) - (52 + toS p) := by
  rw [hl, show ((double.fractionBits : Nat) : Int) = 52 from rfl]; unfold toS; omega
 rw [hj]
 apply rung_half hX
 obtain ⟨lst, hlst⟩ : ∃ lst : Int, lst = max (p + (m.log2 : Int) - (double.fractionBits : Nat)) (-1074) := ⟨_, rfl⟩
 rw [← hlst] at hj ⊢
 have hl2 : -1074 ≤ lst := by omega
 rw [← hj]
 rcases Int.lt_or_le lst p with hq | hq
 ·-- shifted up: exact
  have e1 : (lst - p).toNat = 0 := by omega
  rw [e1, Nat.shiftLeft_eq]
  have hs : toS p = 0 := by unfold toS; omega
  have e2 : Toward.even.cut neg (m * 2 ^ (p - lst).toNat) 0 = m * 2 ^ (p - lst).toNat := by
   have := cut_half neg (m * 2 ^ (p - lst).toNat) 0
   have a := this.le (b := m * 2 ^ (p - lst).toNat) (by simp)
   have b := this.ge (b := m * 2 ^ (p - lst).toNat) (by simp)
   omega
  rw [e2, hs, Nat.zero_add]
  have := half_exact (m * 2 ^ (p - lst).toNat) (lst - -1074).toNat
  have e3 : toX m p = m * 2 ^ (p - lst).toNat * 2 ^ (lst - -1074).toNat := by
   unfold toX; rw [Nat.mul_assoc, ← Nat.pow_add]; congr 2; omega
  rw [e3]; exact this
 ·have e1 : (p - lst).toNat = 0 := by omega
  rw [e1, Nat.shiftLeft_eq, Nat.pow_zero, Nat.mul_one]
  have := (cut_half neg m (lst - p).toNat).scale (p + 1074).toNat
  have e2 : (lst - p).toNat + (p + 1074).toNat = toS p + (lst - -1074).toNat := by unfold toS; omega
  rw [e2] at this
  exact this
def sgnW : Nat := 9223372036854775808
def fneg (b : Nat) : Bool := decide (sgnW ≤ b)
def frung (b : Nat) : Nat := b % sgnW
def sv (neg : Bool) (m : Nat) : Int := if neg then -(m : Int) else (m : Int)
def V (b : Nat) : Int := sv (fneg b) (mag (frung b))
theorem word_eq (neg : Bool) (r : Nat) : double.word neg r = (if neg then sgnW + r else r) := by
 unfold Format.word; rw [signW]; rfl
theorem word_split {b : Nat} (h : b < 2 * sgnW) : b = double.word (fneg b) (frung b) ∧ frung b < sgnW := by
 have hs : 0 < sgnW := by decide
 refine ⟨?_, Nat.mod_lt _ hs⟩
 rw [word_eq]; unfold fneg frung
 by_cases h1 : sgnW ≤ b
 ·rw [decide_eq_true h1, if_pos rfl, Nat.mod_eq_sub_mod h1, Nat.mod_eq_of_lt (by omega)]; omega
 ·rw [decide_eq_false h1, if_neg (by decide), Nat.mod_eq_of_lt (by omega)]
theorem word_neg (neg : Bool) {r : Nat} (h : r < sgnW) : fneg (double.word neg r) = neg ∧ frung (double.word neg r) = r := by
 rw [word_eq]
 unfold fneg frung
 cases neg
 ·exact ⟨decide_eq_false (by simpa using h), by simpa using Nat.mod_eq_of_lt h⟩
 ·exact ⟨decide_eq_true (by simp), by simp [Nat.mod_eq_of_lt h]⟩
theorem V_word (neg : Bool) {r : Nat} (h : r < sgnW) : V (double.word neg r) = sv neg (mag r) := by
 unfold V; rw [(word_neg neg h).1, (word_neg neg h).2]
theorem infR_lt : infR < sgnW := by decide
theorem read_neg {b : Nat} (h : b < 2 * sgnW) : (b / sgnW % 2 == 1) = fneg b := by
 unfold fneg
 have hs : 0 < sgnW := by decide
 by_cases h1 : sgnW ≤ b
 ·have : b / sgnW = 1 := by
   apply Nat.div_eq_of_lt_le <;> omega
  rw [this, decide_eq_true h1]; rfl
 ·rw [Nat.div_eq_of_lt (by omega), decide_eq_false h1]; rfl
theorem read_fin {b : Nat} (h : b < 2 * sgnW) (hr : frung b < infR) : double.read b = .number (fneg b) (sig (frung b)) ((plc (frung b) : Int) - 1074) := by
 unfold Format.read
 rw [signW, bnd, infRg, least]
 simp only [show (9223372036854775808 : Nat) = sgnW from rfl, read_neg h, show b % sgnW = frung b from rfl]
 unfold sig plc
 by_cases h1 : frung b < bn
 ·rw [if_pos h1, if_pos h1, Nat.div_eq_of_lt h1]; rfl
 ·rw [if_neg h1, if_pos hr, if_neg h1]
  congr 1
theorem read_inf {b : Nat} (h : b < 2 * sgnW) (hr : frung b = infR) : double.read b = .infinity (fneg b) := by
 unfold Format.read
 rw [signW, bnd, infRg, least]
 simp only [show (9223372036854775808 : Nat) = sgnW from rfl, read_neg h, show b % sgnW = frung b from rfl]
 rw [if_neg (by rw [hr]; decide), if_neg (by omega), if_pos hr]
theorem read_nan {b : Nat} (h : b < 2 * sgnW) (hr : infR < frung b) : double.read b = .nan (fneg b) (frung b - infR) := by
  unfold Format.read
  rw [signW, bnd, infRg, least]
  simp only [show (9223372036854775808 : Nat) = sgnW from rfl, read_neg h, show b % sgnW = frung b from rfl]
  rw [if_neg (by have : bn ≤ infR := by decide
                 omega), if_neg (by omega), if_neg (by omega)]
theorem cmp_int (a b : Int) : compare a b = if a < b then .lt else if a = b then .eq else .gt := rfl
theorem cmp_scale (a b : Int) (k : Nat) : compare (a * 2 ^ k) (b * 2 ^ k) = compare a b := by
 have hp : (0 : Int) < 2 ^ k := Int.pow_pos (by decide)
 rw [cmp_int, cmp_int]
 rcases Int.lt_trichotomy a b with h | h | h
 ·rw [if_pos h, if_pos (Int.mul_lt_mul_of_pos_right h hp)]
 ·subst h; rw [if_neg (Int.lt_irrefl _), if_neg (Int.lt_irrefl _), if_pos rfl, if_pos rfl]
 ·have h' := Int.mul_lt_mul_of_pos_right h hp
  rw [if_neg (by omega), if_neg (by omega), if_neg (by omega), if_neg (by omega)]
theorem sv_mul (neg : Bool) (m k : Nat) : sv neg (m * 2 ^ k) = sv neg m * 2 ^ k := by
 unfold sv; cases neg <;> simp [Int.natCast_mul, Int.neg_mul]
theorem signed_sv (neg : Bool) (m k : Nat) : signed neg m k = sv neg (m * 2 ^ k) := by
 unfold signed sv; rw [Nat.shiftLeft_eq]
theorem order_fin {a b : Nat} (ha : a < 2 * sgnW) (hb : b < 2 * sgnW) (fa : frung a < infR) (fb : frung b < infR) : double.order a b = some (compare (V a) (V b)) := by
 unfold Format.order
 rw [read_fin ha fa, read_fin hb fb]
 unfold Datum.order
 obtain ⟨_, _, _, ma⟩ := rung_split (frung a)
 obtain ⟨_, _, _, mb⟩ := rung_split (frung b)
 unfold V
 rw [ma, mb]
 dsimp only
 generalize plc (frung a) = i
 generalize plc (frung b) = j
 rw [signed_sv, signed_sv]
 obtain ⟨k, hk⟩ : ∃ k : Nat, (k : Int) = min ((i : Int) - 1074) ((j : Int) - 1074) + 1074 := ⟨min i j, by omega⟩
 have e1 : i = ((i : Int) - 1074 - min ((i : Int) - 1074) ((j : Int) - 1074)).toNat + k := by omega
 have e2 : j = ((j : Int) - 1074 - min ((i : Int) - 1074) ((j : Int) - 1074)).toNat + k := by omega
 generalize ((i : Int) - 1074 - min ((i : Int) - 1074) ((j : Int) - 1074)).toNat = x at *
 generalize ((j : Int) - 1074 - min ((i : Int) - 1074) ((j : Int) - 1074)).toNat = y at *
 rw [e1, e2, Nat.pow_add, Nat.pow_add, ← Nat.mul_assoc, ← Nat.mul_assoc, sv_mul _ _ k, sv_mul _ _ k, cmp_scale]
theorem V_fin_lt {b : Nat} (h : frung b < infR) : -(mag infR : Int) < V b ∧ V b < (mag infR : Int) := by
 have := mag_mono h
 unfold V sv; split <;> omega
theorem order_le {a b : Nat} (ha : a < 2 * sgnW) (hb : b < 2 * sgnW) (fa : frung a ≤ infR) (fb : frung b ≤ infR) : double.order a b = some (compare (V a) (V b)) := by
 have hm : 0 < mag infR := by have := mag_mono (show 0 < infR by decide); rw [mag_zero] at this; exact this
 rcases Nat.lt_or_eq_of_le fa with fa | fa
 ·rcases Nat.lt_or_eq_of_le fb with fb | fb
  ·exact order_fin ha hb fa fb
  ·unfold Format.order
   rw [read_fin ha fa, read_inf hb fb]
   unfold Datum.order
   have hv := V_fin_lt fa
   have hb' : V b = sv (fneg b) (mag infR) := by unfold V; rw [fb]
   rw [hb', cmp_int]
   cases hn : fneg b
   ·rw [if_pos (by unfold sv; simp; omega)]; simp
   ·rw [if_neg (by unfold sv; simp; omega), if_neg (by unfold sv; simp; omega)]; simp
 ·rcases Nat.lt_or_eq_of_le fb with fb | fb
  ·unfold Format.order
   rw [read_inf ha fa, read_fin hb fb]
   unfold Datum.order
   have hv := V_fin_lt fb
   have ha' : V a = sv (fneg a) (mag infR) := by unfold V; rw [fa]
   rw [ha', cmp_int]
   cases hn : fneg a
   ·rw [if_neg (by unfold sv; simp; omega), if_neg (by unfold sv; simp; omega)]; simp
   ·rw [if_pos (by unfold sv; simp; omega)]; simp
  ·unfold Format.order
   rw [read_inf ha fa, read_inf hb fb]
   unfold Datum.order
   have ha' : V a = sv (fneg a) (mag infR) := by unfold V; rw [fa]
   have hb' : V b = sv (fneg b) (mag infR) := by unfold V; rw [fb]
   rw [ha', hb', cmp_int]
   revert hm; generalize mag infR = M; intro hm
   unfold sv
   cases fneg a <;> cases fneg b <;> simp <;> first | rfl | (rw [if_pos (by omega)]; rfl) | (rw [if_neg (by omega), if_neg (by omega)]; rfl) | skip
theorem order_nan {a b : Nat} (ha : a < 2 * sgnW) (hb : b < 2 * sgnW) (h : infR < frung a ∨ infR < frung b) : double.order a b = none := by
 unfold Format.order
 rcases h with h | h
 ·rw [read_nan ha h]; unfold Datum.order; rfl
 ·rw [read_nan hb h]; unfold Datum.order
  cases double.read a <;> rfl
theorem rung_ge {X s r : Nat} (h : mag r * 2 ^ s ≤ X) : r ≤ rung X s := by
 rw [← rung_exact r s]; exact rung_mono h
theorem half_of (m : Nat) (e q : Int) (K : Nat) (he : 0 ≤ e + K) (hkq : 0 ≤ q + K) (n : Nat)
  (hn : n = if q ≤ e then m * 2 ^ (e - q).toNat else rhe m (q - e).toNat) : Half (m * 2 ^ (e + K).toNat) (q + K).toNat n := by
 by_cases h : q ≤ e
 ·rw [if_pos h] at hn
  have : m * 2 ^ (e + K).toNat = n * 2 ^ (q + K).toNat := by
   rw [hn, Nat.mul_assoc, ← Nat.pow_add]; congr 2; omega
  rw [this]; exact half_exact _ _
 ·rw [if_neg h] at hn
  have : (q + K).toNat = (q - e).toNat + (e + K).toNat := by omega
  rw [this, hn]; exact (half_rhe _ _).scale _
theorem near_alg (m : Nat) (e : Int) (K : Nat) (hm : m ≠ 0) (hK : 1074 ≤ K) (he : 0 ≤ e + K) (q : Int) (hq : q = max (e + Nat.log2 m - 52) (-1074)) (n : Nat)
  (hn : n = if q ≤ e then m * 2 ^ (e - q).toNat else rhe m (q - e).toNat) :
  rung (m * 2 ^ (e + K).toNat) (K - 1074) = (q + 1074).toNat * bn + n ∧ n ≤ 2 * bn ∧ (q = -1074 ∨ bn ≤ n) := by
 have hh := half_of m e q K he (by omega) n hn
 have hX : m * 2 ^ (e + K).toNat ≠ 0 := Nat.mul_ne_zero hm (Nat.ne_of_gt (Nat.two_pow_pos _))
 have hl := log2_shift m (e + K).toNat hm
 have l1 := Nat.log2_self_le hX
 have l2 := @Nat.lt_log2_self (m * 2 ^ (e + K).toNat)
 rw [hl] at l1 l2
 have ej : Nat.log2 (m * 2 ^ (e + K).toNat) - (52 + (K - 1074)) = (q + 1074).toNat := by omega
 have es : (q + K).toNat = (K - 1074) + (q + 1074).toNat := by omega
 refine ⟨?_, ?_, ?_⟩
 ·have := (rung_half (s := K - 1074) hX (n := n) (by rw [ej, ← es]; exact hh)).rung
  rw [ej] at this; exact this
 ·refine hh.le ?_
  rw [show 2 * bn = 2 ^ 53 from rfl, ← Nat.pow_add]
  exact Nat.le_of_lt (Nat.lt_of_lt_of_le l2 (Nat.pow_le_pow_right (by decide) (by omega)))
 ·rcases Int.lt_or_le (-1074) q with h | h
  ·right
   refine hh.ge ?_
   rw [bn_eq, ← Nat.pow_add]
   refine Nat.le_trans (Nat.pow_le_pow_right (by decide) ?_) l1
   omega
  ·left; omega
theorem near_low (m : Nat) (e : Int) (K : Nat) (hm : m ≠ 0) (hK : 1074 ≤ K) (he : 0 ≤ e + K) (h : e + Nat.log2 m < -1080) :
  rung (m * 2 ^ (e + K).toNat) (K - 1074) = 0 := by
 have hX : m * 2 ^ (e + K).toNat ≠ 0 := Nat.mul_ne_zero hm (Nat.ne_of_gt (Nat.two_pow_pos _))
 have hl := log2_shift m (e + K).toNat hm
 have l2 := @Nat.lt_log2_self (m * 2 ^ (e + K).toNat)
 rw [hl] at l2
 have hp : (2 : Nat) ^ (m.log2 + (e + K).toNat + 1) * 2 ≤ 2 ^ (K - 1074) := by
  rw [← Nat.pow_succ]; exact Nat.pow_le_pow_right (by decide) (by omega)
 refine Rnd.rung ⟨?_, fun _ => rfl, fun h => absurd h (by omega), fun h => absurd h (by omega)⟩
 have : mag 0 + mag (0 + 1) = 1 := by decide
 rw [this, Nat.one_mul]; omega
theorem mag_inf (c : Nat) (hc : c = 2046) : mag infR = bn * 2 ^ c := by
 have := mag_at c bn (by decide) (.inr (Nat.le_refl _))
 rw [show c * bn + bn = infR from by rw [hc]; rfl] at this; exact this
theorem near_high (m : Nat) (e : Int) (K : Nat) (hm : m ≠ 0) (hK : 1074 ≤ K) (he : 0 ≤ e + K) (h : 1023 < e + Nat.log2 m) :
  infR ≤ rung (m * 2 ^ (e + K).toNat) (K - 1074) := by
 have hX : m * 2 ^ (e + K).toNat ≠ 0 := Nat.mul_ne_zero hm (Nat.ne_of_gt (Nat.two_pow_pos _))
 have hl := log2_shift m (e + K).toNat hm
 have l1 := Nat.log2_self_le hX
 rw [hl] at l1
 apply rung_ge
 obtain ⟨c, hc⟩ : ∃ c, c = 2046 := ⟨_, rfl⟩
 rw [mag_inf c hc, bn_eq, ← Nat.pow_add, ← Nat.pow_add]
 exact Nat.le_trans (Nat.pow_le_pow_right (by decide) (by omega)) l1
theorem ldexp_norm {n : Nat} {q : Int} {p s r c : Nat} (hc : c = 1074) (hq : -1074 ≤ q) (hs1 : bn ≤ s) (hs2 : s < 2 * bn) (hp : n * 2 ^ c = s * 2 ^ p)
  (hr : mag r = n * 2 ^ (q + 1074).toNat) (h : 0 ≤ q + p) : r = (q + p).toNat * bn + s := by
 apply mag_inj
 rw [mag_at _ s (by omega) (.inr hs1), hr]
 have h2 : n * 2 ^ (q + 1074).toNat * 2 ^ c = s * 2 ^ (q + p).toNat * 2 ^ c := by
  rw [Nat.mul_right_comm, hp, Nat.mul_assoc, Nat.mul_assoc, ← Nat.pow_add, ← Nat.pow_add]; congr 2; omega
 exact Nat.eq_of_mul_eq_mul_right (Nat.two_pow_pos c) h2
theorem ldexp_over {n : Nat} {q : Int} {p s r c : Nat} (hc : c = 1074) (hq : -1074 ≤ q) (hs1 : bn ≤ s) (hp : n * 2 ^ c = s * 2 ^ p)
  (hr : mag r = n * 2 ^ (q + 1074).toNat) (h : 2046 ≤ q + p) : infR ≤ r := by
 apply mag_le.1
 obtain ⟨d, hd⟩ : ∃ d, d = 2046 := ⟨_, rfl⟩
 rw [mag_inf d hd, hr]
 have h2 : n * 2 ^ (q + 1074).toNat * 2 ^ c = s * 2 ^ (q + p).toNat * 2 ^ c := by
  rw [Nat.mul_right_comm, hp, Nat.mul_assoc, Nat.mul_assoc, ← Nat.pow_add, ← Nat.pow_add]; congr 2; omega
 rw [Nat.eq_of_mul_eq_mul_right (Nat.two_pow_pos c) h2]
 exact Nat.mul_le_mul hs1 (Nat.pow_le_pow_right (by decide) (by omega))
theorem ldexp_low {n : Nat} {q : Int} {p s r c : Nat} (hc : c = 1074) (hq : -1074 ≤ q) (hs1 : bn ≤ s) (hs2 : s < 2 * bn) (hp : n * 2 ^ c = s * 2 ^ p)
  (hr : mag r = n * 2 ^ (q + 1074).toNat) (h1 : q + p < 0) (h2 : 0 ≤ q + p + 53) : mag r * 2 ^ 53 = mag ((q + p + 53).toNat * bn + s) := by
 rw [mag_at _ s (by omega) (.inr hs1), hr]
 have h2 : n * 2 ^ (q + 1074).toNat * 2 ^ 53 * 2 ^ c = s * 2 ^ (q + p + 53).toNat * 2 ^ c := by
  rw [Nat.mul_right_comm (n * 2 ^ (q + 1074).toNat) (2 ^ 53) (2 ^ c), Nat.mul_right_comm n _ (2 ^ c), hp, Nat.mul_assoc, Nat.mul_assoc, Nat.mul_assoc, ← Nat.pow_add, ← Nat.pow_add, ← Nat.pow_add]
  congr 2; omega
 exact Nat.eq_of_mul_eq_mul_right (Nat.two_pow_pos c) h2
theorem mul_exact {a b r c : Nat} (hc : c = 1074) (ha : a < 2 * sgnW) (hb : b < 2 * sgnW) (fa : frung a < infR) (fb : frung b < infR)
  (hr : mag (frung a) * mag (frung b) = mag r * 2 ^ c) : double.mul a b = some (double.word (fneg a ^^ fneg b) (min r infR)) := by
 unfold Format.mul
 rw [read_fin ha fa, read_fin hb fb]
 unfold Datum.product
 dsimp only [Option.map]
 unfold Format.write
 show some (double.nearest _ _ _) = _
 obtain ⟨_, _, _, ea⟩ := rung_split (frung a)
 obtain ⟨_, _, _, eb⟩ := rung_split (frung b)
 rw [ea, eb] at hr
 generalize sig (frung a) = sa at *
 generalize sig (frung b) = sb at *
 generalize plc (frung a) = pa at *
 generalize plc (frung b) = pb at *
 by_cases h0 : sa * sb = 0
 ·have : mag r * 2 ^ c = 0 := by
   rw [← hr, Nat.mul_mul_mul_comm, h0, Nat.zero_mul]
  have hm : mag r = 0 := by
   rcases Nat.mul_eq_zero.1 this with h | h
   ·exact h
   ·exact absurd h (Nat.ne_of_gt (Nat.two_pow_pos _))
  have : r = 0 := mag_inj (by rw [hm, mag_zero])
  unfold Format.nearest
  rw [if_pos h0, this, Nat.zero_min]
 ·rw [nearest_rung _ _ _ h0]
  have : toX (sa * sb) ((pa : Int) - 1074 + ((pb : Int) - 1074)) = mag r * 2 ^ toS ((pa : Int) - 1074 + ((pb : Int) - 1074)) := by
   unfold toX toS
   apply Nat.eq_of_mul_eq_mul_right (Nat.two_pow_pos c)
   rw [Nat.mul_right_comm (mag r), ← hr, Nat.mul_mul_mul_comm, Nat.mul_assoc (sa * sb), Nat.mul_assoc (sa * sb), ← Nat.pow_add, ← Nat.pow_add, ← Nat.pow_add]
   congr 2; omega
  rw [this, rung_exact]
theorem mag_one (c : Nat) (hc : c = 1074) : mag (1023 * bn) = 2 ^ c := by
 have := mag_at (c - 52) bn (by decide) (.inr (Nat.le_refl _))
 rw [show (c - 52) * bn + bn = 1023 * bn from by subst hc; rfl, bn_eq, ← Nat.pow_add] at this
 rw [← bn_eq, show 52 + (c - 52) = c by omega] at this
 exact this
theorem mag_m53 (c : Nat) (hc : c = 1021) : mag (970 * bn) = 2 ^ c := by
 have := mag_at (c - 52) bn (by decide) (.inr (Nat.le_refl _))
 rw [show (c - 52) * bn + bn = 970 * bn from by subst hc; rfl, bn_eq, ← Nat.pow_add] at this
 rw [← bn_eq, show 52 + (c - 52) = c by omega] at this
 exact this
theorem one_w (neg : Bool) : double.word neg (1023 * bn) < 2 * sgnW ∧ frung (double.word neg (1023 * bn)) = 1023 * bn ∧ fneg (double.word neg (1023 * bn)) = neg := by
 obtain ⟨a, b⟩ := word_neg neg (show 1023 * bn < sgnW by decide)
 exact ⟨by cases neg <;> decide, b, a⟩
theorem word_lt2 (neg : Bool) {r : Nat} (h : r < sgnW) : double.word neg r < 2 * sgnW := by
 rw [word_eq]; split <;> omega
theorem mul_sign (neg : Bool) {r : Nat} (h : r ≤ infR) (n2 : Bool) : double.mul (double.word neg (1023 * bn)) (double.word n2 r) = some (double.word (neg ^^ n2) r) := by
 have hlt : r < sgnW := Nat.lt_of_le_of_lt h infR_lt
 obtain ⟨o1, o2, o3⟩ := one_w neg
 obtain ⟨w1, w2⟩ := word_neg n2 hlt
 have w0 := word_lt2 n2 hlt
 rcases Nat.lt_or_eq_of_le h with h | h
 ·obtain ⟨c, hc⟩ : ∃ c, c = 1074 := ⟨_, rfl⟩
  rw [mul_exact (r := r) hc o1 w0 (by rw [o2]; decide) (by rw [w2]; exact h) (by rw [o2, w2, mag_one c hc, Nat.mul_comm]), o3, w1, Nat.min_eq_left (Nat.le_of_lt h)]
 ·unfold Format.mul
  rw [read_fin o1 (by rw [o2]; decide), read_inf w0 (by rw [w2]; exact h), o3, w1]
  unfold Datum.product
  dsimp only
  rw [o2, if_neg (by decide)]
  dsimp only [Option.map]
  unfold Format.write
  dsimp only
  rw [infRg, h, Bool.xor_comm]
theorem mul_m53 {r r' : Nat} (h : r ≤ infR) (h' : r' < infR) (e : mag r * 2 ^ 53 = mag r') : double.mul (double.word false (970 * bn)) (double.word false r') = some (double.word false r) := by
 have hlt : r' < sgnW := Nat.lt_trans h' infR_lt
 obtain ⟨o3, o2⟩ := word_neg false (show 970 * bn < sgnW by decide)
 have o1 := word_lt2 false (show 970 * bn < sgnW by decide)
 obtain ⟨w1, w2⟩ := word_neg false hlt
 have w0 := word_lt2 false hlt
 obtain ⟨c, hc⟩ : ∃ c, c = 1074 := ⟨_, rfl⟩
 rw [mul_exact (r := r) hc o1 w0 (by rw [o2]; decide) (by rw [w2]; exact h') (by
  rw [o2, w2, mag_m53 (c - 53) (by omega), ← e, Nat.mul_left_comm, ← Nat.pow_add]; congr 2; omega), o3, w1, Nat.min_eq_left h]
 rfl
theorem int_split {n : Nat} (h0 : n ≠ 0) (h : n ≤ 2 * bn) (c : Nat) (hc : c = 1074) : ∃ s p : Nat, bn ≤ s ∧ s < 2 * bn ∧ n * 2 ^ c = s * 2 ^ p ∧ p ≤ 1075 := by
 have l1 := Nat.log2_self_le h0
 have l2 := @Nat.lt_log2_self n
 rcases Nat.lt_or_eq_of_le h with h | h
 ·have hl : n.log2 ≤ 52 := by
   rcases Nat.lt_or_ge 52 n.log2 with q | q
   ·have : (2 : Nat) ^ 53 ≤ 2 ^ n.log2 := Nat.pow_le_pow_right (by decide) q
    have e : (2 : Nat) ^ 53 = 2 * bn := rfl
    omega
   ·exact q
  refine ⟨n * 2 ^ (52 - n.log2), c - 52 + n.log2, ?_, ?_, ?_, by omega⟩
  ·rw [bn_eq, show (52 : Nat) = n.log2 + (52 - n.log2) by omega, Nat.pow_add]
   rw [show n.log2 + (52 - n.log2) - n.log2 = 52 - n.log2 by omega]
   exact Nat.mul_le_mul_right _ l1
  ·rw [show 2 * bn = 2 ^ 53 from rfl, show (53 : Nat) = n.log2 + 1 + (52 - n.log2) by omega, Nat.pow_add]
   exact Nat.mul_lt_mul_of_pos_right l2 (Nat.two_pow_pos _)
  ·rw [Nat.mul_assoc, ← Nat.pow_add]; congr 2; omega
 ·refine ⟨bn, c + 1, Nat.le_refl _, by decide, ?_, by omega⟩
  rw [h, Nat.pow_succ, Nat.mul_comm 2 bn, Nat.mul_assoc, Nat.mul_comm 2]
theorem int_word {n s p c : Nat} (hc : c = 1074) (h0 : n ≠ 0) (hs1 : bn ≤ s) (hs2 : s < 2 * bn) (hp : n * 2 ^ c = s * 2 ^ p) (hl : p ≤ 1075) :
  double.nearest false n 0 = double.word false (p * bn + s) := by
 rw [nearest_rung _ _ _ h0]
 have e1 : toX n 0 = mag (p * bn + s) * 2 ^ toS 0 := by
  rw [mag_at p s (by omega) (.inr hs1), ← hp]
  unfold toX toS
  rw [show ((0 : Int) + 1074).toNat = c by omega, show (-1074 - (0 : Int)).toNat = 0 by decide, Nat.pow_zero, Nat.mul_one]
 rw [e1, rung_exact, Nat.min_eq_left]
 have : p * bn ≤ 1075 * bn := Nat.mul_le_mul_right _ hl
 have e : 1075 * bn + 2 * bn ≤ infR := by decide
 omega
theorem int_zero (neg : Bool) : double.nearest neg 0 0 = double.word neg 0 := by
 unfold Format.nearest; rw [if_pos rfl]
end Gp
namespace Gq
open Ieee Go Go.RowKit Ow Pl Dp Gp
def S : Nat := 98926
theorem S_K : K - 1074 = S := by unfold K S; rfl
def nr (v : Int) : Nat := min (rung v.natAbs S) infR
def nw (v : Int) : Nat := if v = 0 ∨ de v + Nat.log2 (dm v) < -1080 then 0 else double.word (dneg v) (nr v)
theorem nr_le (v : Int) : nr v ≤ infR := Nat.min_le_right _ _
theorem nr_lt (v : Int) : nr v < sgnW := Nat.lt_of_le_of_lt (nr_le v) infR_lt
theorem abs_split {v : Int} : v.natAbs = dm v * 2 ^ (de v + K).toNat := by
 conv => lhs; rw [← sc_self v]
 rw [sc_abs]
theorem nr_zero : nr 0 = 0 := by
 unfold nr rung; rw [if_pos (by rfl), Nat.zero_min]
theorem nr_low {v : Int} (h0 : v ≠ 0) (h : de v + Nat.log2 (dm v) < -1080) : nr v = 0 := by
 have hm : dm v ≠ 0 := fun c => h0 (dm_zero.1 c)
 have := near_low (dm v) (de v) K hm (by unfold K; omega) (by have := de_ge (v := v); omega) h
 unfold nr
 rw [abs_split, ← S_K, this, Nat.zero_min]
theorem nw_word (v : Int) : nw v = double.word (dneg v) (nr v) ∨ (nr v = 0 ∧ nw v = double.word false 0) := by
 unfold nw
 by_cases h0 : v = 0
 ·right; subst h0; rw [if_pos (.inl rfl)]; exact ⟨nr_zero, rfl⟩
 ·by_cases h : de v + Nat.log2 (dm v) < -1080
  ·right; rw [if_pos (.inr h)]; exact ⟨nr_low h0 h, rfl⟩
  ·left; rw [if_neg (by intro c; rcases c with c | c; exact h0 c; exact h c)]
theorem sv_zero (n : Bool) : sv n 0 = 0 := by cases n <;> rfl
theorem nw_facts (v : Int) : nw v < 2 * sgnW ∧ frung (nw v) = nr v ∧ V (nw v) = sv (dneg v) (mag (nr v)) := by
 rcases nw_word v with h | ⟨h0, h⟩
 ·rw [h]; exact ⟨word_lt2 _ (nr_lt v), (word_neg _ (nr_lt v)).2, V_word _ (nr_lt v)⟩
 ·rw [h, h0]
  exact ⟨by decide, (word_neg false (show 0 < sgnW by decide)).2, by rw [V_word _ (show 0 < sgnW by decide), mag_zero, sv_zero, sv_zero]⟩
theorem near_mid {v : Int} (h0 : v ≠ 0) (h1 : -1080 ≤ de v + Nat.log2 (dm v)) (h2 : de v + Nat.log2 (dm v) ≤ 1023) (q : Int) (hq : q = max (de v + Nat.log2 (dm v) - 52) (-1074)) (n : Nat)
  (hn : n = if q ≤ de v then dm v * 2 ^ (de v - q).toNat else rhe (dm v) (q - de v).toNat) :
  nw v = double.word (dneg v) (nr v) ∧ nr v = (q + 1074).toNat * bn + n ∧ n ≤ 2 * bn ∧ mag (nr v) = n * 2 ^ (q + 1074).toNat := by
 have hm : dm v ≠ 0 := fun c => h0 (dm_zero.1 c)
 obtain ⟨e1, e2, e3⟩ := near_alg (dm v) (de v) K hm (by unfold K; omega) (by have := de_ge (v := v); omega) q hq n hn
 have hle : (q + 1074).toNat * bn + n ≤ infR := by
  have : (q + 1074).toNat * bn ≤ 2045 * bn := Nat.mul_le_mul_right _ (by omega)
  have e : 2045 * bn + 2 * bn = infR := by decide
  omega
 have er : nr v = (q + 1074).toNat * bn + n := by
  unfold nr
  rw [abs_split, ← S_K, e1, Nat.min_eq_left hle]
 refine ⟨?_, er, e2, ?_⟩
 ·unfold nw; rw [if_neg (by intro c; rcases c with c | c; exact h0 c; omega)]
 ·rw [er]; exact mag_at _ n e2 (by rcases e3 with e3 | e3; left; omega; right; exact e3)
theorem near_top {v : Int} (h2 : 1023 < de v + Nat.log2 (dm v)) (h0 : v ≠ 0) : nw v = double.word (dneg v) infR := by
 have hm : dm v ≠ 0 := fun c => h0 (dm_zero.1 c)
 have := near_high (dm v) (de v) K hm (by unfold K; omega) (by have := de_ge (v := v); omega) h2
 unfold nw
 rw [if_neg (by intro c; rcases c with c | c; exact h0 c; omega)]
 unfold nr
 rw [abs_split, ← S_K, Nat.min_eq_right this]
theorem sv_abs (n : Bool) (m : Nat) : (sv n m).natAbs = m := by unfold sv; cases n <;> simp
end Gq
namespace Gr
open Ieee Go Go.RowKit Ow Pl Dp Gp Gq
theorem V_sv (b : Nat) : V b = sv (fneg b) (mag (frung b)) := rfl
theorem sv_pow (n : Bool) (m k : Nat) : sv n m * 2 ^ k = sv n (m * 2 ^ k) := (sv_mul n m k).symm
theorem V_zero_iff {b : Nat} : V b = 0 ↔ frung b = 0 := by
 unfold V sv
 constructor
 ·intro h
  apply mag_inj; rw [mag_zero]
  split at h <;> omega
 ·intro h; rw [h, mag_zero]; split <;> rfl
theorem V_pos_word {r : Nat} (h : r < sgnW) : V r = (mag r : Int) := by
 have := V_word false h
 rw [word_eq, if_neg (by decide)] at this
 rw [this]; rfl
theorem nr_eq {v : Int} {r : Nat} (h : rung v.natAbs S = r) (hr : r ≤ infR) : nr v = r := by unfold nr; omega
theorem mag_up {r : Nat} (j : Nat) (h : bn ≤ r) : mag (r + j * bn) = mag r * 2 ^ j := by
 obtain ⟨e1, e2, e3, e4⟩ := rung_split r
 have hs : bn ≤ sig r := by
  rcases e3 with q | q
  ·rw [q] at e1; omega
  ·exact q
 have := mag_at (plc r + j) (sig r) (by omega) (.inr hs)
 rw [e4, Nat.mul_assoc, ← Nat.pow_add, ← this, Nat.add_mul]
 congr 1; omega
theorem rnd_scale {X X' s r r' a b : Nat} (hX : X' * 2 ^ a = X * 2 ^ b) (h : Rnd X s r) (e0 : mag r' * 2 ^ a = mag r * 2 ^ b) (e1 : mag (r' + 1) * 2 ^ a = mag (r + 1) * 2 ^ b)
  (e2 : mag (r' - 1) * 2 ^ a = mag (r - 1) * 2 ^ b) (hp : r' % 2 = r % 2) (h0 : 0 < r) : Rnd X' s r' := by
 have pa := Nat.two_pow_pos a
 have pb := Nat.two_pow_pos b
 have hX2 : 2 * X' * 2 ^ a = 2 * X * 2 ^ b := by rw [Nat.mul_assoc, hX, Nat.mul_assoc]
 have u : (mag r' + mag (r' + 1)) * 2 ^ s * 2 ^ a = (mag r + mag (r + 1)) * 2 ^ s * 2 ^ b := by
  rw [Nat.mul_right_comm, Nat.add_mul, e0, e1, ← Nat.add_mul, Nat.mul_right_comm]
 have d : (mag (r' - 1) + mag r') * 2 ^ s * 2 ^ a = (mag (r - 1) + mag r) * 2 ^ s * 2 ^ b := by
  rw [Nat.mul_right_comm, Nat.add_mul, e0, e2, ← Nat.add_mul, Nat.mul_right_comm]
 refine ⟨?_, fun q => ?_, fun _ => ?_, fun _ q => ?_⟩
 ·apply Nat.le_of_mul_le_mul_right (c := 2 ^ a) _ pa
  rw [hX2, u]; exact Nat.mul_le_mul_right _ h.up
 ·rw [hp]; apply h.upE
  apply Nat.eq_of_mul_eq_mul_right pb
  rw [← hX2, ← u, q]
 ·apply Nat.le_of_mul_le_mul_right (c := 2 ^ a) _ pa
  rw [hX2, d]; exact Nat.mul_le_mul_right _ (h.dn h0)
 ·rw [hp]; apply h.dnE h0
  apply Nat.eq_of_mul_eq_mul_right pb
  rw [← hX2, ← d, q]
theorem mag_move {r r' : Nat} {k : Int} {a b : Nat} (hk : (b : Int) = k + a) (h1 : bn ≤ r) (h2 : bn ≤ r') (e : (r' : Int) = r + k * bn) : mag r' * 2 ^ a = mag r * 2 ^ b := by
 rcases Int.le_total 0 k with q | q
 ·obtain ⟨j, rfl⟩ := Int.eq_ofNat_of_zero_le q
  have e' : r' = r + j * bn := by
   have : ((j * bn : Nat) : Int) = (j : Int) * bn := Int.natCast_mul _ _
   omega
  rw [e', mag_up j h1, Nat.mul_assoc, ← Nat.pow_add]; congr 2; omega
 ·obtain ⟨j, hj⟩ := Int.eq_ofNat_of_zero_le (show 0 ≤ -k by omega)
  have e' : r = r' + j * bn := by
   have : ((j * bn : Nat) : Int) = (j : Int) * bn := Int.natCast_mul _ _
   rw [show k = -(j : Int) by omega, Int.neg_mul] at e
   omega
  rw [e', mag_up j h2, Nat.mul_assoc, ← Nat.pow_add]; congr 2; omega
theorem scale {v v' k : Int} {a b : Nat} (hk : (b : Int) = k + a) (hv : v' * 2 ^ a = v * 2 ^ b) (k0 : -300 ≤ k) (k1 : k ≤ 300) (r0 : 423 * bn < nr v) (r1 : nr v < 1623 * bn) :
  nr v' < infR ∧ V (nw v') * 2 ^ a = V (nw v) * 2 ^ b := by
 have hi : 1923 * bn < infR := by decide
 have hb : 0 < bn := by decide
 have e : rung v.natAbs S = nr v := by unfold nr at *; omega
 have R := rnd_rung v.natAbs S
 rw [e] at R
 have hkb : -(300 * bn : Int) ≤ k * bn ∧ k * bn ≤ (300 * bn : Int) :=
  ⟨by rw [← Int.neg_mul]; exact Int.mul_le_mul_of_nonneg_right (by omega) (by omega), Int.mul_le_mul_of_nonneg_right (by omega) (by omega)⟩
 obtain ⟨r', hr'⟩ := Int.eq_ofNat_of_zero_le (show 0 ≤ (nr v : Int) + k * bn by omega)
 have hr'' : (r' : Int) = nr v + k * bn := by omega
 have hev : r' % 2 = nr v % 2 := by
  have : (bn : Int) = 2 * 2251799813685248 := by decide
  rw [this, ← Int.mul_assoc, Int.mul_right_comm] at hr''
  generalize k * 2251799813685248 = z at *
  omega
 have hX : v'.natAbs * 2 ^ a = v.natAbs * 2 ^ b := by
  have := congrArg Int.natAbs hv
  rwa [Int.natAbs_mul, Int.natAbs_mul, Int.natAbs_pow, Int.natAbs_pow, show (2 : Int).natAbs = 2 from rfl] at this
 have R' : Rnd v'.natAbs S r' := rnd_scale hX R (mag_move hk (by omega) (by omega) hr'')
  (mag_move hk (by omega) (by omega) (by omega)) (mag_move hk (by omega) (by omega) (by omega)) hev (by omega)
 have e' : nr v' = r' := nr_eq R'.rung (by omega)
 refine ⟨by omega, ?_⟩
 have hs : dneg v' = dneg v := by
  have pa := two_pos a
  have pb := two_pos b
  unfold dneg
  by_cases h : v < 0
  ·rw [decide_eq_true h]; apply decide_eq_true
   have := Int.mul_neg_of_neg_of_pos h pb
   rw [← hv] at this
   rcases Int.lt_or_le v' 0 with q | q
   ·exact q
   ·exact absurd (Int.mul_nonneg q (Int.le_of_lt pa)) (by omega)
  ·rw [decide_eq_false h]; apply decide_eq_false
   have := Int.mul_nonneg (show 0 ≤ v by omega) (Int.le_of_lt pb)
   rw [← hv] at this
   intro q
   have := Int.mul_neg_of_neg_of_pos q pa
   omega
 rw [(nw_facts v').2.2, (nw_facts v).2.2, hs, e', sv_pow, sv_pow, mag_move hk (by omega) (by omega) hr'']
end Gr
namespace G1
open Ieee Go Go.RowKit Go.Proofs.YtalbgklfhabnkaaGreatDoor Ow Gp
def W64 : Nat := 18446744073709551616
theorem mask_mod (x k : Nat) : x &&& (2 ^ k - 1) = x % 2 ^ k := Nat.and_two_pow_sub_one_eq_mod x k
theorem and_2047 {b : Nat} (h : b < 2 * sgnW) : bits .and .u64 ((b / bn : Nat) : Int) 2047 = ((b / bn % 2048 : Nat) : Int) := by
 have h1 : b / bn < 18446744073709551616 := Nat.lt_of_le_of_lt (Nat.div_le_self _ _) h
 have := u64_and_nat (b / bn) 2047 h1 (by decide)
 rw [show (2047 : Nat) = 2 ^ 11 - 1 from rfl, mask_mod] at this
 exact this
theorem and_frac {b : Nat} (h : b < 2 * sgnW) : bits .and .u64 (b : Int) 4503599627370495 = ((b % bn : Nat) : Int) := by
 have := u64_and_nat b 4503599627370495 h (by decide)
 rw [show (4503599627370495 : Nat) = 2 ^ 52 - 1 from rfl, mask_mod] at this
 exact this
theorem andNot_sign {b : Nat} (h : b < 2 * sgnW) : bits .andNot .u64 (b : Int) 9223372036854775808 = ((frung b : Nat) : Int) := by
 have := u64_andNot_nat b 9223372036854775808 h (by decide)
 rw [show (18446744073709551615 - 9223372036854775808 : Nat) = 2 ^ 63 - 1 from rfl, mask_mod] at this
 exact this
theorem andNot_exp {b : Nat} (h : b < sgnW) : bits .andNot .u64 (b : Int) 9218868437227405312 = ((b % bn : Nat) : Int) := by
 have := u64_andNot_nat b 9218868437227405312 (Nat.lt_trans h (by decide)) (by decide)
 refine this.trans ?_
 congr 1
 rw [show (18446744073709551615 - 9218868437227405312 : Nat) = 2 ^ 63 + (2 ^ 52 - 1) from rfl]
 rw [bn_eq, ← mask_mod]
 apply Nat.eq_of_testBit_eq
 intro i
 rw [Nat.testBit_and, Nat.testBit_and]
 by_cases hi : i < 63
 ·rw [Nat.testBit_two_pow_add_gt hi]
 ·have : b.testBit i = false := Nat.testBit_lt_two_pow (Nat.lt_of_lt_of_le h (by
   have : (2 : Nat) ^ 63 ≤ 2 ^ i := Nat.pow_le_pow_right (by decide) (by omega)
   exact this))
  rw [this, Bool.false_and, Bool.false_and]
theorem or_add {a c : Nat} (i : Nat) (h1 : c < 2 ^ i) (h : 2 ^ i * a + c < W64) : bits .or .u64 (c : Int) ((2 ^ i * a : Nat) : Int) = ((2 ^ i * a + c : Nat) : Int) := by
 have := u64_or_nat c (2 ^ i * a) (show c < W64 by omega) (show 2 ^ i * a < W64 by omega)
 rw [this, Nat.two_pow_add_eq_or_of_lt h1, Nat.or_comm]
theorem run_bits (b : Nat) (w : World) : (callFunc 89 #[.float .f64 b]).run Tryz.prog w = .ok (.value (.int .u64 b)) w := by
 rw [run_callFunc_extern (e := Extern.MathFloatBits.float64bits) Tryz.func89 rfl rfl rfl rfl]; rfl
theorem run_from (n : Int) (w : World) : (callFunc 163 #[.int .u64 n]).run Tryz.prog w = .ok (.value (.float .f64 n.toNat)) w := by
 rw [run_callFunc_extern (e := Extern.MathFloatBits.float64frombits) Tryz.func163 rfl rfl rfl rfl]; rfl
def Quiet (w : World) (v : Value) (e : Ending) (w' : World) : Prop := e = .returned v ∧ w = w'
theorem inf_calls (s : Int) (w : World) : Calls Tryz.prog 155 #[.int .i64 s] w (Quiet w (.float .f64 (if 0 ≤ s then infR else sgnW + infR))) := by
 by_cases h : 0 ≤ s
 ·have hr := run_from 9218868437227405312 w
  rw [if_pos h]
  go_enter Tryz.func155, Tryz.ntmps155
  go_wp2
  go_ret
  exact ⟨rfl, rfl⟩
 ·have hr := run_from 18442240474082181120 w
  rw [if_neg h]
  go_enter Tryz.func155, Tryz.ntmps155
  go_wp2
  go_ret
  exact ⟨rfl, rfl⟩
theorem isNaN_calls (b : Nat) (w : World) : Calls Tryz.prog 159 #[.float .f64 b] w (Quiet w (.bool (FloatKind.f64.format.order b b != some .eq))) := by
 go_enter Tryz.func159, Tryz.ntmps159
 go_wp2
 go_ret
 exact ⟨rfl, rfl⟩
theorem abs_calls {b : Nat} (hb : b < 2 * sgnW) (w : World) : Calls Tryz.prog 199 #[.float .f64 b] w (Quiet w (.float .f64 (frung b))) := by
 have hr := run_bits b w
 have h1 := andNot_sign hb
 obtain ⟨p, hp⟩ : ∃ p, bits .andNot .u64 (b : Int) 9223372036854775808 = p := ⟨_, rfl⟩
 have hf := run_from p w
 have e : p.toNat = frung b := by rw [← hp, h1]; rfl
 clear h1
 go_enter Tryz.func199, Tryz.ntmps199
 go_wp2
 go_ret
 exact ⟨rfl, rfl⟩
theorem order_pos {a b : Nat} (ha : a ≤ infR) (hb : b ≤ infR) : FloatKind.f64.format.order a b = some (compare (mag a : Int) (mag b : Int)) := by
 have hi := infR_lt
 have fa : frung a = a := Nat.mod_eq_of_lt (by omega)
 have fb : frung b = b := Nat.mod_eq_of_lt (by omega)
 have va : V a = (mag a : Int) := by
  have := V_word false (show a < sgnW by omega)
  rw [word_eq, if_neg (by decide)] at this
  rw [this]; rfl
 have vb : V b = (mag b : Int) := by
  have := V_word false (show b < sgnW by omega)
  rw [word_eq, if_neg (by decide)] at this
  rw [this]; rfl
 show double.order a b = _
 rw [order_le (by omega) (by omega) (by omega) (by omega), va, vb]
theorem order_lt {a b : Nat} (h : a < b) (hb : b ≤ infR) : FloatKind.f64.format.order a b = some .lt := by
 rw [order_pos (by omega) hb, cmp_int, if_pos (by have := mag_mono h; omega)]
theorem order_gt {a b : Nat} (h : b < a) (ha : a ≤ infR) : FloatKind.f64.format.order a b = some .gt := by
 have := mag_mono h
 rw [order_pos ha (by omega), cmp_int, if_neg (by omega), if_neg (by omega)]
theorem order_eq {a : Nat} (ha : a ≤ infR) : FloatKind.f64.format.order a a = some .eq := by
 rw [order_pos ha ha, cmp_int, if_neg (by omega), if_pos rfl]
theorem isInf_calls {b : Nat} (hb : b < infR) (w : World) : Calls Tryz.prog 182 #[.float .f64 b, .int .i64 0] w (Quiet w (.bool false)) := by
 have hi := infR_lt
 have ha := abs_calls (b := b) (by omega)
 rw [show frung b = b from Nat.mod_eq_of_lt (by omega)] at ha
 have AB := Ho.mk ha
 have ho : (FloatKind.f64.format.order b 9218868437227405311 == some .gt) = false := by
  rcases Nat.lt_or_ge b 9218868437227405311 with h | h
  ·rw [order_lt h (by decide)]; rfl
  ·have : b = 9218868437227405311 := by unfold infR at hb; omega
   rw [this, order_eq (by decide)]; rfl
 clear ha
 go_enter Tryz.func182, Tryz.ntmps182
 go_wp2_with (go_at_call 199; (with_reducible refine (AB.out _).mono ?_); rintro e w' ⟨rfl, rfl⟩)
 go_ret
 exact ⟨rfl, rfl⟩
theorem norm_calls {b : Nat} (h : bn ≤ b) (hb : b < infR) (w : World) : Calls Tryz.prog 183 #[.float .f64 b] w (Quiet w (.tuple #[.float .f64 b, .int .i64 0])) := by
 have hi := infR_lt
 have ha := abs_calls (b := b) (by omega)
 rw [show frung b = b from Nat.mod_eq_of_lt (by omega)] at ha
 have AB := Ho.mk ha
 have ho : (FloatKind.f64.format.order b 4503599627370496 == some .lt) = false := by
  rcases Nat.lt_or_ge bn b with q | q
  ·rw [show (4503599627370496 : Nat) = bn from rfl, order_gt q (by omega)]; rfl
  ·rw [show (4503599627370496 : Nat) = bn from rfl, show b = bn by omega, order_eq (by decide)]; rfl
 clear ha
 go_enter Tryz.func183, Tryz.ntmps183
 go_wp2_with (go_at_call 199; (with_reducible refine (AB.out _).mono ?_); rintro e w' ⟨rfl, rfl⟩)
 exact bodyPost_ret (v := .tuple #[.float .f64 b, .int .i64 0]) (by simp [results, Tryz.f183, go_sem]) rfl ⟨rfl, rfl⟩
end G1
namespace G2
open Ieee Go Go.RowKit Go.Proofs.YtalbgklfhabnkaaGreatDoor Ow Gp G1
theorem i64_and_nat (a b : Nat) (ha : a < 9223372036854775808) (hb : b < 9223372036854775808) : bits .and .i64 (a : Int) (b : Int) = ((a &&& b : Nat) : Int) := by
 show IntKind.i64.wrap ((BitVec.ofInt 64 (a : Int) &&& BitVec.ofInt 64 (b : Int)).toNat : Nat) = _
 rw [BitVec.toNat_and, BitVec.ofInt_natCast, BitVec.ofInt_natCast, BitVec.toNat_ofNat, BitVec.toNat_ofNat, Nat.mod_eq_of_lt (by omega), Nat.mod_eq_of_lt (by omega), IntKind.wrap_i64]
 have := Nat.and_le_left (n := a) (m := b)
 omega
theorem and_i2047 {E : Nat} (h : E < 2048) : bits .and .i64 (E : Int) 2047 = (E : Int) := by
 have := i64_and_nat E 2047 (by omega) (by decide)
 rw [show (2047 : Nat) = 2 ^ 11 - 1 from rfl, mask_mod, Nat.mod_eq_of_lt (by omega)] at this
 exact this
theorem or_exp {f E : Nat} (hf : f < bn) (hE : E < 2048) : (bits .or .u64 (f : Int) ((E : Int) * 4503599627370496)).toNat = E * bn + f := by
 have := or_add (a := E) (c := f) 52 hf (by unfold W64; rw [← bn_eq]; unfold bn at *; omega)
 rw [show ((E : Int) * 4503599627370496) = ((2 ^ 52 * E : Nat) : Int) by rw [← bn_eq]; unfold bn; omega, this, ← bn_eq, Nat.mul_comm]; rfl
theorem shift1 {b s : Nat} (h : b ≤ s) (z : Nat) : z + 1 * b + (s - b) = z + s := by omega
theorem ldexp_calls {n p s r c : Nat} {q : Int} (hc : c = 1074) (hs1 : bn ≤ s) (hs2 : s < 2 * bn) (hp : p ≤ 1075) (hp0 : 1022 ≤ p) (hq0 : -1074 ≤ q) (hq1 : q ≤ 971) (hn : n * 2 ^ c = s * 2 ^ p)
  (hr : mag r = n * 2 ^ (q + 1074).toNat) (hri : r ≤ infR) (w : World) :
  Calls Tryz.prog 165 #[.float .f64 (p * bn + s), .int .i64 q] w (Quiet w (.float .f64 r)) := by
 obtain ⟨X, hX⟩ : ∃ X, X = p * bn + s := ⟨_, rfl⟩
 rw [← hX]
 have hpb : p * bn ≤ 1075 * bn := Nat.mul_le_mul_right _ hp
 have hb : bn = 4503599627370496 := rfl
 have hi : infR = 9218868437227405312 := rfl
 have hs : sgnW = 9223372036854775808 := rfl
 have hX1 : X < infR := by omega
 have hX0 : bn ≤ X := by omega
 have HI := Ho.mk (isInf_calls (b := X) hX1)
 have HN := Ho.mk (isNaN_calls X)
 have HM := Ho.mk (norm_calls hX0 hX1)
 have o0 : (FloatKind.f64.format.order X 0 == some .eq) = false := by rw [order_gt (by omega) (by omega)]; rfl
 have o1 : (FloatKind.f64.format.order X X != some .eq) = false := by rw [order_eq (by omega)]; rfl
 have o2 : (FloatKind.f64.format.order X 0 == some .lt) = false := by rw [order_gt (by omega) (by omega)]; rfl
 have rb := run_bits X w
 obtain ⟨E, hE⟩ : ∃ E : Nat, E = p + 1 := ⟨_, rfl⟩
 have d1 : (X : Int) / 4503599627370496 = (E : Int) := by
  have : X = E * bn + (s - bn) := by rw [hX, hE, Nat.add_mul]; omega
  have h2 : E * bn = E * 4503599627370496 := rfl
  omega
 have d2 : bits .and .i64 (E : Int) 2047 = (E : Int) := and_i2047 (by omega)
 have d3 : bits .andNot .u64 (X : Int) 9218868437227405312 = ((s - bn : Nat) : Int) := by
  have h1 : X = E * bn + (s - bn) := by rw [hX, hE, Nat.add_mul]; omega
  have h2 : X % bn = s - bn := by rw [h1, Nat.mul_add_mod', Nat.mod_eq_of_lt (by omega)]
  rw [andNot_exp (by omega), h2]
 obtain ⟨e, he⟩ : ∃ e : Int, (E : Int) = e := ⟨_, rfl⟩
 obtain ⟨f, hf⟩ : ∃ f : Int, ((s - bn : Nat) : Int) = f := ⟨_, rfl⟩
 rw [he] at d1 d2
 rw [hf] at d3
 have e0 : 1023 ≤ e := by omega
 have e1 : e ≤ 1076 := by omega
 have rf := fun n => run_from n w
 by_cases hA : 1023 < q + (e - 1023)
 ·have : r = infR := Nat.le_antisymm hri (ldexp_over hc hq0 hs1 hn hr (by omega))
  have HF := Ho.mk (inf_calls 1)
  have HR := Ho.mk this
  clear hX hE he hf hn hr hc hp hp0 hs1 hs2 hri this hpb hb hi hs hX1 hX0
  go_enter Tryz.func165, Tryz.ntmps165
  go_wp2_with first
   | (go_at_call 182; (with_reducible refine (HI.out _).mono ?_); rintro _ _ ⟨rfl, rfl⟩)
   | (go_at_call 159; (with_reducible refine (HN.out _).mono ?_); rintro _ _ ⟨rfl, rfl⟩)
   | (go_at_call 183; (with_reducible refine (HM.out _).mono ?_); rintro _ _ ⟨rfl, rfl⟩)
   | (go_at_call 155; (with_reducible refine (HF.out _).mono ?_); rintro _ _ ⟨rfl, rfl⟩)
  go_ret
  exact ⟨by rw [HR.out]; rfl, rfl⟩
 ·by_cases hB : -1022 ≤ q + (e - 1023)
  ·have er : r = (q + p).toNat * bn + s := ldexp_norm hc hq0 hs1 hs2 hn hr (by omega)
   obtain ⟨o, ho⟩ : ∃ o, bits .or .u64 f ((q + (e - 1023) + 1023) * 4503599627370496) = o := ⟨_, rfl⟩
   have hor : o.toNat = r := by
    have h1 := or_exp (f := s - bn) (E := (q + p).toNat + 1) (by omega) (by omega)
    rw [← ho, ← hf, show q + (e - 1023) + 1023 = (((q + p).toNat + 1 : Nat) : Int) by omega, h1, er, Nat.add_mul, shift1 hs1]
   have hm : ∀ t w, (binOp .mul t (.float .f64 4607182418800017408) (.float .f64 o.toNat)).run Tryz.prog w = .ok (.float .f64 r) w := fun t w => by
    rw [hor]
    refine run_float_arith w .mul t .f64 _ _ r ?_
    have h1 := mul_sign false hri false
    rw [word_eq, word_eq, if_neg (by decide), if_neg (by decide)] at h1
    rw [show (false ^^ false) = false from rfl, word_eq, if_neg (by decide)] at h1
    exact h1
   clear hX hE he hf hn hr hc hp hp0 hs1 hs2 hri hpb hb hi hs hX1 hX0 er hor
   go_enter Tryz.func165, Tryz.ntmps165
   go_wp2_with first
    | (go_at_call 182; (with_reducible refine (HI.out _).mono ?_); rintro _ _ ⟨rfl, rfl⟩)
    | (go_at_call 159; (with_reducible refine (HN.out _).mono ?_); rintro _ _ ⟨rfl, rfl⟩)
    | (go_at_call 183; (with_reducible refine (HM.out _).mono ?_); rintro _ _ ⟨rfl, rfl⟩)
    | (simp only [hm])
   go_ret
   exact ⟨rfl, rfl⟩
  ·have hlow : mag r * 2 ^ 53 = mag ((q + p + 53).toNat * bn + s) := ldexp_low hc hq0 hs1 hs2 hn hr (by omega) (by omega)
   obtain ⟨o, ho⟩ : ∃ o, bits .or .u64 f ((q + (e - 1023) + 53 + 1023) * 4503599627370496) = o := ⟨_, rfl⟩
   have hor : o.toNat = (q + p + 53).toNat * bn + s := by
    have h1 := or_exp (f := s - bn) (E := (q + p + 53).toNat + 1) (by omega) (by omega)
    rw [← ho, ← hf, show q + (e - 1023) + 53 + 1023 = (((q + p + 53).toNat + 1 : Nat) : Int) by omega, h1, Nat.add_mul, shift1 hs1]
   have hm : ∀ t w, (binOp .mul t (.float .f64 4368491638549381120) (.float .f64 o.toNat)).run Tryz.prog w = .ok (.float .f64 r) w := fun t w => by
    rw [hor]
    refine run_float_arith w .mul t .f64 _ _ r ?_
    have hz : (q + p + 53).toNat * bn ≤ 53 * bn := Nat.mul_le_mul_right _ (by omega)
    have h1 := mul_m53 hri (r' := (q + p + 53).toNat * bn + s) (by omega) hlow
    rw [word_eq, word_eq, word_eq, if_neg (by decide), if_neg (by decide), if_neg (by decide)] at h1
    exact h1
   clear hX hE he hf hn hr hc hp hp0 hs1 hs2 hri hpb hb hi hs hX1 hX0 hlow hor
   go_enter Tryz.func165, Tryz.ntmps165
   go_wp2_with first
    | (go_at_call 182; (with_reducible refine (HI.out _).mono ?_); rintro _ _ ⟨rfl, rfl⟩)
    | (go_at_call 159; (with_reducible refine (HN.out _).mono ?_); rintro _ _ ⟨rfl, rfl⟩)
    | (go_at_call 183; (with_reducible refine (HM.out _).mono ?_); rintro _ _ ⟨rfl, rfl⟩)
    | (simp only [hm])
   go_ret
   exact ⟨rfl, rfl⟩
theorem ldexp0_calls (q : Int) (w : World) : Calls Tryz.prog 165 #[.float .f64 0, .int .i64 q] w (Quiet w (.float .f64 0)) := by
 have o0 : (FloatKind.f64.format.order 0 0 == some .eq) = true := by rw [order_eq (by decide)]; rfl
 go_enter Tryz.func165, Tryz.ntmps165
 go_wp2
 go_ret
 exact ⟨rfl, rfl⟩
theorem ldexpG_calls (b r : Nat) (q : Int) (w : World) (h : Calls Tryz.prog 165 #[.float .f64 b, .int .i64 q] w (Quiet w (.float .f64 r))) :
  Calls Tryz.prog 156 #[.float .f64 b, .int .i64 q] w (Quiet w (.float .f64 r)) := by
 have H := Ho.mk h
 clear h
 go_enter Tryz.func156, Tryz.ntmps156
 go_wp2_with (go_at_call 165; (with_reducible refine H.out.mono ?_); rintro _ _ ⟨rfl, rfl⟩)
 go_ret
 exact ⟨rfl, rfl⟩
theorem ldexpN_calls {n r : Nat} {q : Int} (hn : n ≤ 2 * bn) (hq0 : -1074 ≤ q) (hq1 : q ≤ 971) (hr : mag r = n * 2 ^ (q + 1074).toNat) (hri : r ≤ infR) (w : World) :
  Calls Tryz.prog 156 #[.float .f64 (floatOfInt .f64 (n : Int)), .int .i64 q] w (Quiet w (.float .f64 r)) := by
 apply ldexpG_calls
 have e0 : floatOfInt .f64 (n : Int) = double.nearest false n 0 := by
  show FloatKind.f64.nearest (n : Int) = _
  unfold FloatKind.nearest FloatKind.encode
  rw [show decide ((n : Int) < 0) = false from decide_eq_false (by omega), Int.natAbs_natCast]
  rfl
 rw [e0]
 by_cases h0 : n = 0
 ·have : r = 0 := mag_inj (by rw [hr, h0, Nat.zero_mul, mag_zero])
  subst h0; subst this
  rw [int_zero]
  exact ldexp0_calls q w
 ·obtain ⟨c, hc⟩ : ∃ c, c = 1074 := ⟨_, rfl⟩
  obtain ⟨s, p, hs1, hs2, hp, hpl⟩ := int_split h0 hn c hc
  rw [int_word hc h0 hs1 hs2 hp hpl, word_eq, if_neg (by decide)]
  have hp0 : 1022 ≤ p := by
   rcases Nat.lt_or_ge p 1022 with q | q
   ·have h1 : s * 2 ^ p < 2 * bn * 2 ^ (c - 53) := by
     refine Nat.lt_of_lt_of_le (Nat.mul_lt_mul_of_pos_right hs2 (Nat.two_pow_pos p)) (Nat.mul_le_mul_left _ (Nat.pow_le_pow_right (by decide) (by omega)))
    rw [show 2 * bn = 2 ^ 53 from rfl, ← Nat.pow_add, show 53 + (c - 53) = c by omega, ← hp] at h1
    have := Nat.mul_le_mul_right (2 ^ c) (show 1 ≤ n by omega)
    omega
   ·exact q
  exact ldexp_calls hc hs1 hs2 hpl hp0 hq0 hq1 hp hr hri w
end G2
namespace G3
open Ieee Go Go.RowKit Go.Proofs.YtalbgklfhabnkaaGreatDoor Ow Gp Gr G1 G2
theorem ord {a b : Nat} (ha : a < 2 * sgnW) (hb : b < 2 * sgnW) (fa : frung a ≤ infR) (fb : frung b ≤ infR) : FloatKind.f64.format.order a b = some (compare (V a) (V b)) := order_le ha hb fa fb
theorem ord_no {a b : Nat} (ha : a < 2 * sgnW) (hb : b < 2 * sgnW) (h : infR < frung a ∨ infR < frung b) : FloatKind.f64.format.order a b = none := order_nan ha hb h
theorem c_eq {x y : Int} (h : x = y) : compare x y = .eq := by rw [cmp_int, if_neg (by omega), if_pos h]
def alike (a b : Nat) : Bool := FloatKind.f64.format.order a b == some .eq || (FloatKind.f64.format.order a a != some .eq && FloatKind.f64.format.order b b != some .eq)
theorem rsame_calls (a b : Nat) (w : World) : Calls Tryz.prog 47 #[.float .f64 a, .float .f64 b] w (Quiet w (.bool (alike a b))) := by
 unfold alike
 cases h1 : (FloatKind.f64.format.order a b == some .eq)
 ·cases h2 : (FloatKind.f64.format.order a a != some .eq)
  ·go_enter Tryz.func47, Tryz.ntmps47
   go_wp2
   go_ret
   exact ⟨rfl, rfl⟩
  ·cases h3 : (FloatKind.f64.format.order b b != some .eq)
   all_goals
    go_enter Tryz.func47, Tryz.ntmps47
    go_wp2
    go_ret
    exact ⟨rfl, rfl⟩
 ·go_enter Tryz.func47, Tryz.ntmps47
  go_wp2
  go_ret
  exact ⟨rfl, rfl⟩
end G3
namespace G4
open Ieee Go Go.RowKit Go.Proofs.YtalbgklfhabnkaaGreatDoor Ow Gp Gq G1 G2 G3 F1
def w0 (b : Nat) : Int := ((b / sgnW : Nat) : Int)
def w1 (b : Nat) : Int := ((b / bn % 2048 : Nat) : Int)
def w2 (b : Nat) : Int := ((b % bn : Nat) : Int)
theorem split_calls {b : Nat} (hb : b < 2 * sgnW) (w : World) :
  Calls Tryz.prog 158 #[.float .f64 b] w (Tells w (.agg #[.int .i64 (w0 b), .int .i64 (w1 b), .int .i64 (w2 b)])) := by
 have rb := fun w => run_bits b w
 have d0 : (b : Int) / 9223372036854775808 = w0 b := rfl
 have d1 : bits .and .u64 ((b : Int) / 4503599627370496) 2047 = w1 b := and_2047 hb
 have d2 : bits .and .u64 (b : Int) 4503599627370495 = w2 b := and_frac hb
 have a0 : 0 ≤ w0 b := Int.natCast_nonneg _
 have a1 : w0 b ≤ 1 := by
  unfold w0
  have : b / sgnW < 2 := Nat.div_lt_of_lt_mul (by omega)
  omega
 have b0 : 0 ≤ w1 b := Int.natCast_nonneg _
 have b1 : w1 b ≤ 2047 := by unfold w1; omega
 have c0 : 0 ≤ w2 b := Int.natCast_nonneg _
 have c1 : w2 b ≤ 4503599627370495 := by
  unfold w2
  have : b % bn < 4503599627370496 := Nat.mod_lt _ (by decide)
  omega
 clear hb
 generalize w0 b = x0 at *
 generalize w1 b = x1 at *
 generalize w2 b = x2 at *
 go_enter Tryz.func158, Tryz.ntmps158
 go_wp2
 exact bodyPost_ret (v := .agg #[.int .i64 x0, .int .i64 x1, .int .i64 x2]) (by simp [results, Tryz.f158, go_sem]) rfl ⟨rfl, (Bel.refl w).alloc _⟩
theorem eq3 (x0 x1 x2 y0 y1 y2 : Int) (w : World) : (Op.equalIn 10000 226 (.agg #[.int .i64 x0, .int .i64 x1, .int .i64 x2]) (.agg #[.int .i64 y0, .int .i64 y1, .int .i64 y2])).run Tryz.prog w = .ok (x0 == y0 && (x1 == y1 && x2 == y2)) w := by
 obtain ⟨i, hi⟩ := Option.isSome_iff_exists.1 (show (Tryz.prog.info? 3).isSome = true by kernel_rfl)
 have hu : Tryz.prog.underlying 226 = some (.array 3 3) := by kernel_rfl
 have hp : Tryz.prog.plainKey 3 = true := by kernel_rfl
 have hc : Tryz.prog.cellsOf 3 = 1 := by kernel_rfl
 have h3 : Tryz.prog.underlying 3 = some (.int .i64) := by kernel_rfl
 rw [show (10000 : Nat) = 9999 + 1 from rfl, run_equalIn_array w 9999 _ _ hu hi, hc, show List.range 3 = [0, 1, 2] from rfl]
 have p0 : ∀ a b c : Int, (part 3 #[Value.int .i64 a, .int .i64 b, .int .i64 c] (0 * 1)).run Tryz.prog w = .ok (.int .i64 a) w := fun a b c => run_part_plain w hp rfl
 have p1 : ∀ a b c : Int, (part 3 #[Value.int .i64 a, .int .i64 b, .int .i64 c] (1 * 1)).run Tryz.prog w = .ok (.int .i64 b) w := fun a b c => run_part_plain w hp rfl
 have p2 : ∀ a b c : Int, (part 3 #[Value.int .i64 a, .int .i64 b, .int .i64 c] (2 * 1)).run Tryz.prog w = .ok (.int .i64 c) w := fun a b c => run_part_plain w hp rfl
 have q : ∀ a b : Int, (Op.equalIn 9999 3 (.int .i64 a) (.int .i64 b)).run Tryz.prog w = .ok (a == b) w := fun a b => run_equalIn_int w 9998 3 .i64 .i64 a b h3
 simp only [Op.eqItems, Sem.run_bind, p0, p1, p2, Result.andThen_ok, q]
 cases x0 == y0
 ·rfl
 ·simp only [Op.eqItems, Sem.run_bind, p0, p1, p2, Result.andThen_ok, q, Bool.not_true, Bool.false_eq_true, if_false]
  cases x1 == y1
  ·rfl
  ·simp only [Op.eqItems, Sem.run_bind, p0, p1, p2, Result.andThen_ok, q, Bool.not_true, Bool.false_eq_true, if_false]
   cases x2 == y2 <;> rfl
theorem w_inj {a b : Nat} (h0 : w0 a = w0 b) (h1 : w1 a = w1 b) (h2 : w2 a = w2 b) (ha : a < 2 * sgnW) (hb : b < 2 * sgnW) : a = b := by
 unfold w0 at h0; unfold w1 at h1; unfold w2 at h2
 have e : sgnW = 2048 * bn := by decide
 have key : ∀ x : Nat, x = x / sgnW * sgnW + x / bn % 2048 * bn + x % bn := fun x => by
  have a1 := Nat.div_add_mod x bn
  have a2 := Nat.div_add_mod (x / bn) 2048
  rw [Nat.div_div_eq_div_mul, Nat.mul_comm bn 2048, ← e] at a2
  have a3 : x / bn * bn = (2048 * (x / sgnW) + x / bn % 2048) * bn := by rw [a2]
  rw [Nat.add_mul, Nat.mul_right_comm, ← e] at a3
  have a4 := Nat.mul_comm bn (x / bn)
  have a5 := Nat.mul_comm sgnW (x / sgnW)
  omega
 have ka := key a
 rw [show a / sgnW = b / sgnW by omega, show a / bn % 2048 = b / bn % 2048 by omega, show a % bn = b % bn by omega] at ka
 exact ka.trans (key b).symm
theorem alike_self {a : Nat} (ha : a < 2 * sgnW) : alike a a = true := by
 unfold alike
 rcases Nat.lt_or_ge infR (frung a) with q | q
 ·rw [ord_no ha ha (.inl q)]; rfl
 ·rw [ord ha ha q q, c_eq rfl]; rfl
theorem same_calls {a b : Nat} (ha : a < 2 * sgnW) (hb : b < 2 * sgnW) (w : World) :
  Calls Tryz.prog 149 #[.float .f64 a, .float .f64 b] w (Tells w (.bool (alike a b))) := by
 have SA := Ho.mk (split_calls ha)
 have SB := Ho.mk (split_calls hb)
 have NA := Ho.mk (isNaN_calls a)
 have NB := Ho.mk (isNaN_calls b)
 have HE : Ho ((w0 a == w0 b && (w1 a == w1 b && w2 a == w2 b)) = true → alike a b = true) := ⟨fun h => by
  simp only [Bool.and_eq_true, beq_iff_eq] at h
  have := w_inj h.1 h.2.1 h.2.2 ha hb
  subst this; exact alike_self ha⟩
 have eqW := fun w => eq3 (w0 a) (w1 a) (w2 a) (w0 b) (w1 b) (w2 b) w
 clear ha hb
 generalize w0 a = x0 at *
 generalize w1 a = x1 at *
 generalize w2 a = x2 at *
 generalize w0 b = y0 at *
 generalize w1 b = y1 at *
 generalize w2 b = y2 at *
 generalize (x0 == y0 && (x1 == y1 && x2 == y2)) = E at *
 unfold alike at HE ⊢
 cases E
 ·clear HE
  cases h1 : (FloatKind.f64.format.order a b == some .eq)
  ·cases h2 : (FloatKind.f64.format.order a a != some .eq)
   ·rw [h2] at NA
    go_enter Tryz.func149, Tryz.ntmps149
    go_wp2_with first
     | (go_at_call 158; first | ((with_reducible refine (SA.out _).mono ?_); rintro _ w1 ⟨rfl, hb1⟩; have HB1 := Ho.mk hb1; clear hb1) | ((with_reducible refine (SB.out _).mono ?_); rintro _ w2 ⟨rfl, hb2⟩; have HB2 := Ho.mk (HB1.out.trans hb2); clear hb2))
     | (go_at_call 159; (first | (with_reducible refine (NA.out _).mono ?_) | (with_reducible refine (NB.out _).mono ?_)); rintro _ _ ⟨rfl, rfl⟩)
     | (simp only [eqW])
    go_ret
    exact ⟨rfl, HB2.out⟩
   ·rw [h2] at NA
    cases h3 : (FloatKind.f64.format.order b b != some .eq)
    all_goals
     rw [h3] at NB
     go_enter Tryz.func149, Tryz.ntmps149
     go_wp2_with first
      | (go_at_call 158; first | ((with_reducible refine (SA.out _).mono ?_); rintro _ w1 ⟨rfl, hb1⟩; have HB1 := Ho.mk hb1; clear hb1) | ((with_reducible refine (SB.out _).mono ?_); rintro _ w2 ⟨rfl, hb2⟩; have HB2 := Ho.mk (HB1.out.trans hb2); clear hb2))
      | (go_at_call 159; (first | (with_reducible refine (NA.out _).mono ?_) | (with_reducible refine (NB.out _).mono ?_)); rintro _ _ ⟨rfl, rfl⟩)
      | (simp only [eqW])
     go_ret
     exact ⟨rfl, HB2.out⟩
  ·go_enter Tryz.func149, Tryz.ntmps149
   go_wp2_with first
    | (go_at_call 158; first | ((with_reducible refine (SA.out _).mono ?_); rintro _ w1 ⟨rfl, hb1⟩; have HB1 := Ho.mk hb1; clear hb1) | ((with_reducible refine (SB.out _).mono ?_); rintro _ w2 ⟨rfl, hb2⟩; have HB2 := Ho.mk (HB1.out.trans hb2); clear hb2))
    | (go_at_call 159; (first | (with_reducible refine (NA.out _).mono ?_) | (with_reducible refine (NB.out _).mono ?_)); rintro _ _ ⟨rfl, rfl⟩)
    | (simp only [eqW])
   go_ret
   exact ⟨rfl, HB2.out⟩
 ·rw [HE.out rfl]
  clear HE
  go_enter Tryz.func149, Tryz.ntmps149
  go_wp2_with first
   | (go_at_call 158; first | ((with_reducible refine (SA.out _).mono ?_); rintro _ w1 ⟨rfl, hb1⟩; have HB1 := Ho.mk hb1; clear hb1) | ((with_reducible refine (SB.out _).mono ?_); rintro _ w2 ⟨rfl, hb2⟩; have HB2 := Ho.mk (HB1.out.trans hb2); clear hb2))
   | (go_at_call 159; (first | (with_reducible refine (NA.out _).mono ?_) | (with_reducible refine (NB.out _).mono ?_)); rintro _ _ ⟨rfl, rfl⟩)
   | (simp only [eqW])
  go_ret
  exact ⟨rfl, HB2.out⟩
end G4
namespace T0
open Ieee Go Go.RowKit Ow Pl Dp Gp Gq F1
abbrev Iv := Int × Int
abbrev Pt := Iv × Iv
def iadd (a b : Iv) : Iv := (a.1 + b.1, a.2 + b.2)
def iflip (a : Iv) : Iv := (-a.2, -a.1)
def ishift (a : Iv) (k : Int) : Iv := (shiftD a.1 k, shiftD a.2 k)
def lo2 (a b : Int) : Int := if cmpI b a < 0 then b else a
def hi2 (a b : Int) : Int := if 0 < cmpI b a then b else a
def imul (a b : Iv) : Iv := (lo2 (lo2 (lo2 (mulD a.1 b.1) (mulD a.1 b.2)) (mulD a.2 b.1)) (mulD a.2 b.2), hi2 (hi2 (hi2 (mulD a.1 b.1) (mulD a.1 b.2)) (mulD a.2 b.1)) (mulD a.2 b.2))
def icut (a : Iv) (n : Nat) : Iv := (cutV a.1 n false, cutV a.2 n true)
def rootK (m : Nat) (e : Int) (n : Nat) : Nat := (2 * n + 4 - blen m) + ((e - (2 * n + 4 - blen m : Nat)) % 2).toNat
noncomputable def rootT (m : Nat) : Nat := 2 * rootN m + (if rootN m * rootN m < m then 1 else 0)
noncomputable def rootV (v : Int) (n : Nat) (up : Bool) : Int :=
 cutV (sc false (rootT (dm v * 2 ^ rootK (dm v) (de v) n)) ((de v - rootK (dm v) (de v) n) / 2 - 1)) n up
noncomputable def iroot (a : Iv) (n : Nat) : Iv := (rootV a.1 n false, rootV a.2 n true)
def one : Iv := (2 ^ K, 2 ^ K)
noncomputable def halfRoot (a : Iv) (w : Nat) : Iv := iroot (ishift a (-1)) w
noncomputable def halvesP (w : Nat) : Nat → Pt
 | 0 => (halfRoot one w, halfRoot one w)
 | j + 1 => (halfRoot (iadd one (halvesP w j).1) w, halfRoot (iadd one (iflip (halvesP w j).1)) w)
def turned (p q : Pt) (w : Nat) : Pt := (icut (iadd (imul p.1 q.1) (iflip (imul p.2 q.2))) w, icut (iadd (imul p.2 q.1) (imul p.1 q.2)) w)
noncomputable def restP (k Q w : Nat) : Nat → Pt
 | 0 => (one, (0, 0))
 | j + 1 => if k / 2 ^ (Q - (3 + j)) % 2 = 1 then turned (restP k Q w j) (halvesP w j) w else restP k Q w j
def floorV (v : Int) (n : Nat) : Int := if 0 ≤ de v + n then v else sc (dneg v) (dm v / 2 ^ (-de v - n).toNat + (if dneg v then 1 else 0)) (-n)
def endsV (a : Iv) (n : Nat) : Iv := (floorV a.1 n, -floorV (-a.2) n)
def knownB (a : Iv) (n : Nat) : Bool := decide (cmpI (shiftD ((endsV a n).2 + -(endsV a n).1) n) (2 ^ K) ≤ 0)
structure E3 where
 n : Bool
 m : Nat
 e : Int
def E3.v (x : E3) : Int := sc x.n x.m x.e
def ofV (v : Int) : E3 := ⟨dneg v, dm v, de v⟩
theorem ofV_v (v : Int) : (ofV v).v = v := sc_self v
def lowE : Int := -20000
theorem low_K {e : Int} (h : lowE ≤ e) : -(K : Int) ≤ e := by unfold lowE at h; unfold K; omega
def tzE (m : Nat) : Nat := let t := Nat.log2 (m ^^^ (m - 1)); if m % 2 ^ t = 0 ∧ m / 2 ^ t % 2 = 1 then t else tz m
theorem tzE_eq (m : Nat) : tzE m = tz m := by
 unfold tzE
 generalize Nat.log2 (m ^^^ (m - 1)) = t
 dsimp only
 split
 ·rename_i h
  have e := Nat.div_add_mod m (2 ^ t)
  rw [h.1, Nat.add_zero, Nat.mul_comm] at e
  have := (odd_of (k := t) h.2).2
  rw [e] at this; exact this.symm
 ·rfl
def enrm (n : Bool) (m : Nat) (e : Int) : E3 := if m = 0 then ⟨false, 0, 0⟩ else ⟨n, m / 2 ^ tzE m, e + tzE m⟩
theorem enrm_v (n : Bool) (m : Nat) {e : Int} (h : lowE ≤ e) : (enrm n m e).v = sc n m e := by
 unfold enrm E3.v
 by_cases h0 : m = 0
 ·rw [if_pos h0, h0, sc_zero, sc_zero]
 ·rw [if_neg h0, tzE_eq]; exact sc_odd n m e (low_K h)
def E3.nf (x : E3) : Bool := x.m % 2 == 1 && decide (lowE ≤ x.e)
theorem nf_parts {x : E3} (h : x.nf = true) : dneg x.v = x.n ∧ dm x.v = x.m ∧ de x.v = x.e ∧ x.v ≠ 0 ∧ x.m ≠ 0 := by
 unfold E3.nf at h
 simp only [Bool.and_eq_true, beq_iff_eq, decide_eq_true_eq] at h
 have h0 : x.m ≠ 0 := by omega
 unfold E3.v
 exact ⟨sc_neg h0, by rw [sc_m, odd_self h.1], by rw [sc_e h0 (low_K h.2), tz_odd h.1]; omega, sc_ne h0, h0⟩
theorem zero_v {x : E3} (h : x.m = 0) : x.v = 0 := by unfold E3.v; rw [h, sc_zero]
def eadd (x y : E3) : E3 :=
  if lowE ≤ x.e ∧ lowE ≤ y.e then
    (let e := min x.e y.e
     let a := x.m * 2 ^ (x.e - e).toNat
     let b := y.m * 2 ^ (y.e - e).toNat
     if x.n = y.n then enrm x.n (a + b) e else if b ≤ a then enrm x.n (a - b) e else enrm y.n (b - a) e)
  else ofV (x.v + y.v)
theorem sc_up (n : Bool) (m : Nat) {e f : Int} (hf : -(K : Int) ≤ f) (h : f ≤ e) : sc n (m * 2 ^ (e - f).toNat) f = sc n m e := by
 rw [sc_down n m (e - f).toNat f hf]; congr 1; omega
theorem eadd_v (x y : E3) : (eadd x y).v = x.v + y.v := by
 unfold eadd
 split
 ·rename_i h
  dsimp only
  have hf : lowE ≤ min x.e y.e := by omega
  have hx := sc_up x.n x.m (low_K hf) (show min x.e y.e ≤ x.e by omega)
  have hy := sc_up y.n y.m (low_K hf) (show min x.e y.e ≤ y.e by omega)
  generalize x.m * 2 ^ (x.e - min x.e y.e).toNat = a at *
  generalize y.m * 2 ^ (y.e - min x.e y.e).toNat = b at *
  show _ = sc x.n x.m x.e + sc y.n y.m y.e
  rw [← hx, ← hy]
  split
  ·rename_i hn
   rw [enrm_v _ _ hf, sc_add, hn]
  ·rename_i hn
   have hn' : y.n = !x.n := by cases h1 : x.n <;> cases h2 : y.n <;> simp_all
   split
   ·rename_i hb
    rw [enrm_v _ _ hf, sc_sub _ _ _ _ hb, hn']
   ·rename_i hb
    rw [enrm_v _ _ hf, sc_sub _ _ _ _ (by omega), hn', Bool.not_not, Int.add_comm]
 ·exact ofV_v _
def eneg (x : E3) : E3 := ⟨!x.n, x.m, x.e⟩
theorem eneg_v (x : E3) : (eneg x).v = -x.v := sc_flip x.n x.m x.e
def emul (x y : E3) : E3 :=
 if lowE ≤ x.e ∧ lowE ≤ y.e ∧ lowE ≤ x.e + y.e then enrm (x.n != y.n) (x.m * y.m) (x.e + y.e) else ofV (mulD x.v y.v)
theorem emul_v (x y : E3) : (emul x y).v = mulD x.v y.v := by
 unfold emul
 split
 ·rename_i h
  rw [enrm_v _ _ h.2.2]
  have := sc_mul x.n y.n x.m y.m x.e y.e (low_K h.1) (low_K h.2.1) (low_K h.2.2)
  unfold mulD
  show _ = sc x.n x.m x.e * sc y.n y.m y.e / 2 ^ K
  rw [← this, Int.mul_ediv_cancel _ (Int.ne_of_gt (two_pos K))]
 ·exact ofV_v _
def eshift (x : E3) (k : Int) : E3 := if x.m = 0 then x else if x.nf = true then ⟨x.n, x.m, x.e + k⟩ else ofV (shiftD x.v k)
theorem eshift_v (x : E3) (k : Int) : (eshift x k).v = shiftD x.v k := by
 unfold eshift
 split
 ·rename_i h
  rw [zero_v h]; unfold shiftD; rw [show dm 0 = 0 from odd_zero, sc_zero]
 ·split
  ·rename_i h
   obtain ⟨a, b, c, _, _⟩ := nf_parts h
   unfold shiftD; rw [a, b, c]; rfl
  ·exact ofV_v _
def ecut (x : E3) (n : Nat) (up : Bool) : E3 :=
 if x.m = 0 then x else if x.nf = true then
  (if blen x.m ≤ n then x else enrm x.n (x.m / 2 ^ (blen x.m - n) + (if up = x.n then 0 else 1)) (x.e + (blen x.m - n : Nat)))
 else ofV (cutV x.v n up)
theorem ecut_v (x : E3) (n : Nat) (up : Bool) : (ecut x n up).v = cutV x.v n up := by
 unfold ecut
 split
 ·rename_i h
  rw [zero_v h]; unfold cutV; rw [if_pos (by rw [show dm 0 = 0 from odd_zero]; exact Nat.zero_le _)]
 ·split
  ·rename_i h
   obtain ⟨a, b, c, _, _⟩ := nf_parts h
   unfold E3.nf at h
   simp only [Bool.and_eq_true, decide_eq_true_eq] at h
   unfold cutV cutX
   rw [a, b, c]
   split
   ·rfl
   ·exact enrm_v _ _ (by omega)
  ·exact ofV_v _
def newt (M : Nat) : Nat → Nat → Nat
 | 0, x => x
 | f + 1, x => if (x + M / x) / 2 < x then newt M f ((x + M / x) / 2) else x
noncomputable def rootE (M : Nat) : Nat := let r := newt M 60 (2 ^ ((blen M + 1) / 2)); if r * r ≤ M ∧ M < (r + 1) * (r + 1) then r else rootN M
theorem rootE_eq (M : Nat) : rootE M = rootN M := by
 unfold rootE
 dsimp only
 split
 ·rename_i h; exact (rootN_eq h.1 h.2).symm
 ·rfl
noncomputable def eroot (x : E3) (n : Nat) (up : Bool) : E3 :=
  if x.nf = true ∧ lowE ≤ (x.e - rootK x.m x.e n) / 2 - 1 then
    (let M := x.m * 2 ^ rootK x.m x.e n
     let r := rootE M
     ecut (enrm false (2 * r + (if r * r < M then 1 else 0)) ((x.e - rootK x.m x.e n) / 2 - 1)) n up)
  else ofV (rootV x.v n up)
theorem eroot_v (x : E3) (n : Nat) (up : Bool) : (eroot x n up).v = rootV x.v n up := by
 unfold eroot
 split
 ·rename_i h
  obtain ⟨a, b, c, _, _⟩ := nf_parts h.1
  dsimp only
  unfold rootV
  rw [ecut_v, enrm_v _ _ h.2, b, c, rootE_eq]; rfl
 ·exact ofV_v _
def ecmp (x y : E3) : Int := let d := eadd x (eneg y); if d.m = 0 then 0 else if d.n then -1 else 1
theorem ecmp_v (x y : E3) : ecmp x y = cmpI x.v y.v := by
 have h := eadd_v x (eneg y)
 rw [eneg_v] at h
 rw [← sgn_sub, ← h]
 unfold ecmp
 generalize eadd x (eneg y) = d
 dsimp only
 unfold sgn
 by_cases h0 : d.m = 0
 ·rw [if_pos h0, zero_v h0]; rfl
 ·rw [if_neg h0]
  have hn : dneg d.v = d.n := sc_neg h0
  have hz : d.v ≠ 0 := sc_ne h0
  unfold dneg at hn
  cases hd : d.n
  ·rw [hd] at hn
   have := of_decide_eq_false hn
   rw [if_neg (by decide), cmpI_gt (by omega)]
  ·rw [hd] at hn
   rw [if_pos rfl, cmpI_lt (of_decide_eq_true hn)]
def elo (a b : E3) : E3 := if ecmp b a < 0 then b else a
def ehi (a b : E3) : E3 := if 0 < ecmp b a then b else a
theorem elo_v (a b : E3) : (elo a b).v = lo2 a.v b.v := by unfold elo lo2; rw [ecmp_v]; split <;> rfl
theorem ehi_v (a b : E3) : (ehi a b).v = hi2 a.v b.v := by unfold ehi hi2; rw [ecmp_v]; split <;> rfl
def efloor (x : E3) (n : Nat) : E3 :=
 if x.m = 0 then x else if x.nf = true then
  (if 0 ≤ x.e + n then x else if lowE ≤ -(n : Int) then enrm x.n (x.m / 2 ^ (-x.e - n).toNat + (if x.n then 1 else 0)) (-n) else ofV (floorV x.v n))
 else ofV (floorV x.v n)
theorem efloor_v (x : E3) (n : Nat) : (efloor x n).v = floorV x.v n := by
 unfold efloor
 split
 ·rename_i h
  rw [zero_v h]; unfold floorV; rw [if_pos (by rw [de_zero]; omega)]
 ·split
  ·rename_i h
   obtain ⟨a, b, c, _, _⟩ := nf_parts h
   split
   ·rename_i h2
    unfold floorV; rw [c, if_pos h2]
   ·rename_i h2
    split
    ·rename_i h3
     unfold floorV; rw [a, b, c, if_neg h2]; exact enrm_v _ _ h3
    ·exact ofV_v _
  ·exact ofV_v _
abbrev Ie := E3 × E3
abbrev Pe := Ie × Ie
def vi (a : Ie) : Iv := (a.1.v, a.2.v)
def vp (a : Pe) : Pt := (vi a.1, vi a.2)
def xadd (a b : Ie) : Ie := (eadd a.1 b.1, eadd a.2 b.2)
def xflip (a : Ie) : Ie := (eneg a.2, eneg a.1)
def xshift (a : Ie) (k : Int) : Ie := (eshift a.1 k, eshift a.2 k)
def xmul (a b : Ie) : Ie :=
 let p := emul a.1 b.1
 let q := emul a.1 b.2
 let r := emul a.2 b.1
 let s := emul a.2 b.2
 (elo (elo (elo p q) r) s, ehi (ehi (ehi p q) r) s)
def xcut (a : Ie) (n : Nat) : Ie := (ecut a.1 n false, ecut a.2 n true)
noncomputable def xroot (a : Ie) (n : Nat) : Ie := (eroot a.1 n false, eroot a.2 n true)
theorem xadd_v (a b : Ie) : vi (xadd a b) = iadd (vi a) (vi b) := by simp only [vi, xadd, iadd, eadd_v]
theorem xflip_v (a : Ie) : vi (xflip a) = iflip (vi a) := by simp only [vi, xflip, iflip, eneg_v]
theorem xshift_v (a : Ie) (k : Int) : vi (xshift a k) = ishift (vi a) k := by simp only [vi, xshift, ishift, eshift_v]
theorem xmul_v (a b : Ie) : vi (xmul a b) = imul (vi a) (vi b) := by simp only [vi, xmul, imul, elo_v, ehi_v, emul_v]
theorem xcut_v (a : Ie) (n : Nat) : vi (xcut a n) = icut (vi a) n := by simp only [vi, xcut, icut, ecut_v]
theorem xroot_v (a : Ie) (n : Nat) : vi (xroot a n) = iroot (vi a) n := by simp only [vi, xroot, iroot, eroot_v]
def xone : Ie := (⟨false, 1, 0⟩, ⟨false, 1, 0⟩)
theorem one_e : (E3.mk false 1 0).v = 2 ^ K := by
 unfold E3.v sc
 dsimp only
 rw [if_neg (by decide), Int.one_mul, Nat.one_mul, Int.zero_add, Int.toNat_natCast, Int.natCast_pow, show ((2 : Nat) : Int) = 2 from rfl]
theorem xone_v : vi xone = one := by
 unfold vi xone one
 dsimp only
 rw [one_e]
noncomputable def xhalf (a : Ie) (w : Nat) : Ie := xroot (xshift a (-1)) w
theorem xhalf_v (a : Ie) (w : Nat) : vi (xhalf a w) = halfRoot (vi a) w := by unfold xhalf halfRoot; rw [xroot_v, xshift_v]
noncomputable def halvesE (w : Nat) : Nat → Pe
 | 0 => (xhalf xone w, xhalf xone w)
 | j + 1 => let p := halvesE w j; (xhalf (xadd xone p.1) w, xhalf (xadd xone (xflip p.1)) w)
theorem halvesE_v (w : Nat) : ∀ j, vp (halvesE w j) = halvesP w j
 | 0 => by unfold halvesE halvesP vp; rw [xhalf_v, xone_v]
 | j + 1 => by
  have ih := halvesE_v w j
  unfold halvesE halvesP
  rw [← ih]
  dsimp only [vp]
  rw [xhalf_v, xadd_v, xhalf_v, xadd_v, xflip_v, xone_v]
def xturned (p q : Pe) (w : Nat) : Pe := (xcut (xadd (xmul p.1 q.1) (xflip (xmul p.2 q.2))) w, xcut (xadd (xmul p.2 q.1) (xmul p.1 q.2)) w)
theorem xturned_v (p q : Pe) (w : Nat) : vp (xturned p q w) = turned (vp p) (vp q) w := by
 unfold xturned turned vp
 simp only [xcut_v, xadd_v, xmul_v, xflip_v]
def xends (a : Ie) (n : Nat) : Ie := (efloor a.1 n, eneg (efloor (eneg a.2) n))
theorem xends_v (a : Ie) (n : Nat) : vi (xends a n) = endsV (vi a) n := by unfold xends endsV vi; simp only [efloor_v, eneg_v]
def xknown (a : Ie) (n : Nat) : Bool := let b := xends a n; decide (ecmp (eshift (eadd b.2 (eneg b.1)) n) ⟨false, 1, 0⟩ ≤ 0)
theorem xknown_v (a : Ie) (n : Nat) : xknown a n = knownB (vi a) n := by
 unfold xknown knownB
 dsimp only
 rw [ecmp_v, eshift_v, eadd_v, eneg_v, ← xends_v, one_e]
 generalize (2 : Int) ^ K = z
 rfl
def ew (x : E3) : Nat :=
  if x.m = 0 then 0 else if x.nf = true ∧ -1080 ≤ x.e + Nat.log2 x.m ∧ x.e + Nat.log2 x.m ≤ 1023 then
    (let q := max (x.e + Nat.log2 x.m - 52) (-1074)
     double.word x.n ((q + 1074).toNat * bn + (if q ≤ x.e then x.m * 2 ^ (x.e - q).toNat else rhe x.m (q - x.e).toNat)))
  else nw x.v
theorem ew_v (x : E3) : ew x = nw x.v := by
 unfold ew
 split
 ·rename_i h; rw [zero_v h]; unfold nw; rw [if_pos (.inl rfl)]
 ·split
  ·rename_i h
   obtain ⟨a, b, c, d, _⟩ := nf_parts h.1
   dsimp only
   obtain ⟨h1, h2, _, _⟩ := near_mid d (by rw [b, c]; exact h.2.1) (by rw [b, c]; exact h.2.2) (max (x.e + Nat.log2 x.m - 52) (-1074)) (by rw [b, c]) (if max (x.e + Nat.log2 x.m - 52) (-1074) ≤ x.e then x.m * 2 ^ (x.e - max (x.e + Nat.log2 x.m - 52) (-1074)).toNat else rhe x.m (max (x.e + Nat.log2 x.m - 52) (-1074) - x.e).toNat) (by rw [b, c])
   rw [h1, h2, a]
  ·rfl
end T0
namespace I0
open Go Go.RowKit Go.Proofs.YtalbgklfhabnkaaGreatDoor Ow Pl Dp Dt D3 F1 T0
def MakesI (w : World) (i : Iv) (L U : Nat) (e : Ending) (w' : World) : Prop :=
 ∃ A c B d, e = .returned (.agg #[.bool (dneg i.1), .slice A (digs (dm i.1)).length c, .int .i64 (de i.1), .bool (dneg i.2), .slice B (digs (dm i.2)).length d, .int .i64 (de i.2)]) ∧ Dv w' A c i.1 L U ∧ Dv w' B d i.2 L U ∧ Bel w w'
def zero6 : List Value := [.bool false, .slice none 0 0, .int .i64 0, .bool false, .slice none 0 0, .int .i64 0]
theorem rd_far6 {w : World} {b : Nat} {t : TypeId} {ad : Addr} {y : Nat} (hb : Blk w b t [.bool false, .slice none 0 0, .int .i64 0, .bool false, .slice none 0 0, .int .i64 0]) (h : Rd w (some ad) (digs y)) (hy : y ≠ 0) : ad.block ≠ b := by
 intro e
 have hl : 0 < (digs y).length := List.length_pos_iff.2 (fun c => hy (digs_nil.1 c))
 have hat : ∀ j, j < (digs y).length → zero6[ad.off + j]? = some (.int .i64 (nth (digs y) j)) := by
  intro j hj
  obtain ⟨ad', e', hc⟩ := h.cell j hj
  cases e'
  unfold World.cell? at hc
  rw [add_block, e, hb.out] at hc
  simp at hc
  have ho : (ad.add j).off = ad.off + j := by
   unfold Addr.add; split
   ·subst_vars; rfl
   ·rfl
  rw [← ho]; exact hc.2
 have h0 := hat 0 hl
 rw [Nat.add_zero] at h0
 have ho : (ad.off = 2 ∨ ad.off = 5) ∧ nth (digs y) 0 = 0 := by
  unfold zero6 at h0
  match ho : ad.off, h0 with
  | 0, h0 => simp at h0
  | 1, h0 => simp at h0
  | 2, h0 => simp at h0; exact ⟨.inl rfl, h0.symm⟩
  | 3, h0 => simp at h0
  | 4, h0 => simp at h0
  | 5, h0 => simp at h0; exact ⟨.inr rfl, h0.symm⟩
  | k + 6, h0 => simp at h0
 rcases Nat.lt_or_ge 1 (digs y).length with h2 | h2
 ·have h1 := hat 1 h2
  unfold zero6 at h1
  rcases ho.1 with q | q
  ·rw [q] at h1; simp at h1
  ·rw [q] at h1; simp at h1
 ·have h3 := (digs_can y).2
  obtain ⟨z, hz⟩ := List.length_eq_one_iff.1 (show (digs y).length = 1 by omega)
  rw [hz] at h3 ho
  exact h3 (by simp; exact ho.2)
def set6 (w : World) (b : Nat) (v0 v1 v2 v3 v4 v5 : Value) : World :=
 (((((w.setCell ⟨b, 0, none⟩ v0).setCell ⟨b, 1, none⟩ v1).setCell ⟨b, 2, none⟩ v2).setCell ⟨b, 3, none⟩ v3).setCell ⟨b, 4, none⟩ v4).setCell ⟨b, 5, none⟩ v5
theorem rd_set6 {w : World} {A : Option Addr} {l : List Int} {b : Nat} (h : Rd w A l) (hp : ∀ ad, A = some ad → ad.block ≠ b) (v0 v1 v2 v3 v4 v5 : Value) : Rd (set6 w b v0 v1 v2 v3 v4 v5) A l :=
 D2.rd_set (D2.rd_set (D2.rd_set (D2.rd_set (D2.rd_set (D2.rd_set h hp v0) hp v1) hp v2) hp v3) hp v4) hp v5
theorem dv_set6 {w : World} {A : Option Addr} {c : Nat} {v : Int} {L U b : Nat} (h : Dv w A c v L U) (K : Blk w b 42 [.bool false, .slice none 0 0, .int .i64 0, .bool false, .slice none 0 0, .int .i64 0]) (v0 v1 v2 v3 v4 v5 : Value) : Dv (set6 w b v0 v1 v2 v3 v4 v5) A c v L U := by
 refine ⟨h.cap, ?_, h.wd⟩
 by_cases h0 : dm v = 0
 ·rw [h0, digs_zero]; exact Rd.nil _ _
 ·exact rd_set6 h.rd (fun ad2 he => by subst he; exact rd_far6 K h.rd h0) _ _ _ _ _ _
theorem bel_set6 {w w2 : World} {b : Nat} (g : Bel w w2) (hb : w.heap.size ≤ b) (v0 v1 v2 v3 v4 v5 : Value) : Bel w (set6 w2 b v0 v1 v2 v3 v4 v5) :=
 ⟨(((((g.out.setCell (p := ⟨b, 0, none⟩) hb v0).setCell (p := ⟨b, 1, none⟩) hb v1).setCell (p := ⟨b, 2, none⟩) hb v2).setCell (p := ⟨b, 3, none⟩) hb v3).setCell (p := ⟨b, 4, none⟩) hb v4).setCell (p := ⟨b, 5, none⟩) hb v5⟩
theorem blk_set6 {w : World} {b : Nat} {t : TypeId} {u0 u1 u2 u3 u4 u5 : Value} (K : Blk w b t [u0, u1, u2, u3, u4, u5]) (v0 v1 v2 v3 v4 v5 : Value) : Blk (set6 w b v0 v1 v2 v3 v4 v5) b t [v0, v1, v2, v3, v4, v5] :=
 (((((K.set 0 v0).set 1 v1).set 2 v2).set 3 v3).set 4 v4).set 5 v5
theorem res6 {fn : Func} {p : Tmp} {tmps : Array Value} {w : World} {b : Nat} {v0 v1 v2 v3 v4 v5 : Value} (hf : fn.results = #[.cell p 42]) (hp : tmps.getD p undef = .pointer (some ⟨b, 0, none⟩)) (h : Blk w b 42 [v0, v1, v2, v3, v4, v5]) :
  (results fn tmps).run Tryz.prog w = .ok (.agg #[v0, v1, v2, v3, v4, v5]) w := by
 obtain ⟨y0, y1, y2, y3, y4, y5⟩ := h.c6
 have hp2 := hp
 rw [Array.getD_eq_getD_getElem?] at hp2
 simp [results, hf, hp2, go_sem, y0, y1, y2, y3, y4, y5]
theorem res6b {fn : Func} {p q : Tmp} {tmps : Array Value} {w : World} {b : Nat} {v0 v1 v2 v3 v4 v5 : Value} {ok : Bool} (hf : fn.results = #[.cell p 42, .tmp q]) (hp : tmps.getD p undef = .pointer (some ⟨b, 0, none⟩)) (hq : tmps.getD q undef = .bool ok) (h : Blk w b 42 [v0, v1, v2, v3, v4, v5]) :
  (results fn tmps).run Tryz.prog w = .ok (.tuple #[.agg #[v0, v1, v2, v3, v4, v5], .bool ok]) w := by
 obtain ⟨y0, y1, y2, y3, y4, y5⟩ := h.c6
 have hp2 := hp
 rw [Array.getD_eq_getD_getElem?] at hp2
 have hq2 := hq
 rw [Array.getD_eq_getD_getElem?] at hq2
 simp [results, hf, hp2, hq2, go_sem, y0, y1, y2, y3, y4, y5]
def MakesIB (w : World) (i : Iv) (ok : Bool) (L U : Nat) (e : Ending) (w' : World) : Prop :=
 ∃ A c B d, e = .returned (.tuple #[.agg #[.bool (dneg i.1), .slice A (digs (dm i.1)).length c, .int .i64 (de i.1), .bool (dneg i.2), .slice B (digs (dm i.2)).length d, .int .i64 (de i.2)], .bool ok]) ∧ Dv w' A c i.1 L U ∧ Dv w' B d i.2 L U ∧ Bel w w'
section
variable {fn : Func} {p q : Tmp} {tmps : Array Value} {w w2 : World} {i : Iv} {b c d L U : Nat} {A B : Option Addr}
theorem gives_endI (hf : fn.results = #[.cell p 42]) (hp : tmps.getD p undef = .pointer (some ⟨b, 0, none⟩)) (hB : Bel w w2) (hb : w.heap.size ≤ b)
  (K : Blk w2 b 42 [.bool false, .slice none 0 0, .int .i64 0, .bool false, .slice none 0 0, .int .i64 0]) (h1 : Dv w2 A c i.1 L U) (h2 : Dv w2 B d i.2 L U) :
  bodyPost Tryz.prog fn (MakesI w i L U) .ret { tmps := tmps, defers := [] }
   ((((((w2.setCell ⟨b, 0, none⟩ (.bool (dneg i.1))).setCell ⟨b, 1, none⟩ (.slice A (digs (dm i.1)).length c)).setCell ⟨b, 2, none⟩ (.int .i64 (de i.1))).setCell ⟨b, 3, none⟩ (.bool (dneg i.2))).setCell ⟨b, 4, none⟩ (.slice B (digs (dm i.2)).length d)).setCell ⟨b, 5, none⟩ (.int .i64 (de i.2))) :=
 bodyPost_ret (v := .agg #[.bool (dneg i.1), .slice A (digs (dm i.1)).length c, .int .i64 (de i.1), .bool (dneg i.2), .slice B (digs (dm i.2)).length d, .int .i64 (de i.2)]) (res6 hf hp (blk_set6 K _ _ _ _ _ _)) rfl
  ⟨A, c, B, d, rfl, dv_set6 h1 K _ _ _ _ _ _, dv_set6 h2 K _ _ _ _ _ _, bel_set6 hB hb _ _ _ _ _ _⟩
theorem gives_endIB {ok : Bool} (hf : fn.results = #[.cell p 42, .tmp q]) (hp : tmps.getD p undef = .pointer (some ⟨b, 0, none⟩)) (hq : tmps.getD q undef = .bool ok) (hB : Bel w w2) (hb : w.heap.size ≤ b)
  (K : Blk w2 b 42 [.bool false, .slice none 0 0, .int .i64 0, .bool false, .slice none 0 0, .int .i64 0]) (h1 : Dv w2 A c i.1 L U) (h2 : Dv w2 B d i.2 L U) :
  bodyPost Tryz.prog fn (MakesIB w i ok L U) .ret { tmps := tmps, defers := [] }
   ((((((w2.setCell ⟨b, 0, none⟩ (.bool (dneg i.1))).setCell ⟨b, 1, none⟩ (.slice A (digs (dm i.1)).length c)).setCell ⟨b, 2, none⟩ (.int .i64 (de i.1))).setCell ⟨b, 3, none⟩ (.bool (dneg i.2))).setCell ⟨b, 4, none⟩ (.slice B (digs (dm i.2)).length d)).setCell ⟨b, 5, none⟩ (.int .i64 (de i.2))) :=
 bodyPost_ret (v := .tuple #[.agg #[.bool (dneg i.1), .slice A (digs (dm i.1)).length c, .int .i64 (de i.1), .bool (dneg i.2), .slice B (digs (dm i.2)).length d, .int .i64 (de i.2)], .bool ok]) (res6b hf hp hq (blk_set6 K _ _ _ _ _ _)) rfl
  ⟨A, c, B, d, rfl, dv_set6 h1 K _ _ _ _ _ _, dv_set6 h2 K _ _ _ _ _ _, bel_set6 hB hb _ _ _ _ _ _⟩
theorem Dv.wid {v : Int} {L' U' : Nat} (h : Dv w A c v L U) (k : Wd v L' U') : Dv w A c v L' U' := ⟨h.cap, h.rd, k⟩
end
theorem gives_endD {fn : Func} {p : Tmp} {tmps : Array Value} {w w2 : World} {v : Int} {b c2 L U : Nat} {A2 : Option Addr} (hf : fn.results = #[.cell p 37]) (hp : tmps.getD p undef = .pointer (some ⟨b, 0, none⟩))
  (hB : Bel w w2) (hb : w.heap.size ≤ b) (K : Blk w2 b 37 [.bool false, .slice none 0 0, .int .i64 0]) (h : Dv w2 A2 c2 v L U) :
  bodyPost Tryz.prog fn (MakesD w v L U) .ret { tmps := tmps, defers := [] }
   (((w2.setCell ⟨b, 0, none⟩ (.bool (dneg v))).setCell ⟨b, 1, none⟩ (.slice A2 (digs (dm v)).length c2)).setCell ⟨b, 2, none⟩ (.int .i64 (de v))) := by
 have KF := ((K.set 0 (.bool (dneg v))).set 1 (.slice A2 (digs (dm v)).length c2)).set 2 (.int .i64 (de v))
 have BF := ((hB.out.setCell (p := ⟨b, 0, none⟩) hb (.bool (dneg v))).setCell (p := ⟨b, 1, none⟩) hb (.slice A2 (digs (dm v)).length c2)).setCell (p := ⟨b, 2, none⟩) hb (.int .i64 (de v))
 have RF : Rd (((w2.setCell ⟨b, 0, none⟩ (.bool (dneg v))).setCell ⟨b, 1, none⟩ (.slice A2 (digs (dm v)).length c2)).setCell ⟨b, 2, none⟩ (.int .i64 (de v))) A2 (digs (dm v)) := by
  by_cases h0 : dm v = 0
  ·rw [h0, digs_zero]; exact Rd.nil _ _
  ·exact D2.rd_set3 h.rd (fun ad2 he => by subst he; exact D2.rd_far K (fun z => by simp) h.rd h0) _ _ _
 exact bodyPost_ret (v := .agg #[.bool (dneg v), .slice A2 (digs (dm v)).length c2, .int .i64 (de v)]) (D2.res3 hf hp KF) rfl ⟨A2, c2, rfl, ⟨h.cap, RF, h.wd⟩, ⟨BF⟩⟩
theorem bel_set3 {w w2 : World} {b : Nat} (g : Bel w w2) (hb : w.heap.size ≤ b) (v0 v1 v2 : Value) : Bel w (((w2.setCell ⟨b, 0, none⟩ v0).setCell ⟨b, 1, none⟩ v1).setCell ⟨b, 2, none⟩ v2) :=
 ⟨((g.out.setCell (p := ⟨b, 0, none⟩) hb v0).setCell (p := ⟨b, 1, none⟩) hb v1).setCell (p := ⟨b, 2, none⟩) hb v2⟩
section
variable {P : Program} {ops : Array Oper} {Q : Exit → Act → World → Prop} {md : Region.Mode} {S : World → Prop}
theorem ops_at {i : Nat} {oi : Oper} {rest : List Oper} (h : ops.toList.drop i = oi :: rest) : ops[i]? = some oi := by
 have : (ops.toList.drop i)[0]? = some oi := by rw [h]; rfl
 rw [List.getElem?_drop] at this
 simpa using this
theorem r_take {i : Nat} {oi : Oper} {rest : List Oper} {v : Value} {fuel : Nat} {listed : Array Bool} {a : Act} {w : World} (hi : ops.toList.drop i = oi :: rest)
  (hs : Region.noSelect ops = true) (hf : Region.free md ops listed i = true) (hr : (Region.ready md ops listed).contains i = true)
  (hQ : ∀ c a w, Q (.panic c) (a.put oi.dst v) w → Q (.panic c) a w) (hw : Region.wanted oi (yielded ops a.tmps) = true) (hS : S w)
  (hv : ∀ w, S w → (execOp a.eval oi).run P w = .ok (.value v) w)
  (h : wpAnyH P md ops Q S fuel (listed.setIfInBounds i true) (a.put oi.dst v) w) : wpAnyH P md ops Q S (fuel + 1) listed a w :=
 wpAnyH_take (ops_at hi) hs hf hr hQ (.inl ⟨hw, hv⟩) hS h
theorem r_call {i : Nat} {o : Oper} {rest : List Oper} {fuel : Nat} {listed : Array Bool} {a : Act} {w : World} (hr : Region.ready md ops listed = [i]) (hi : ops.toList.drop i = o :: rest)
  (hw : Region.wanted o (yielded ops a.tmps) = true)
  (h : ∀ K' : Act → World → Prop, Shut (∀ a w, S w → (S w → wpAnyH P md ops Q S fuel (listed.setIfInBounds i true) a w) → K' a w) → Oper.wp P o a w K' Q) : wpAnyH P md ops Q S (fuel + 1) listed a w :=
 wpAnyH_ready hr (by simp) (AllReadyH.cons (ops_at hi) (fun K' hK => by rw [if_pos hw]; exact h K' hK) AllReadyH.nil)
theorem rt {i : Nat} {oi : Oper} {rest : List Oper} {v : Value} {fuel : Nat} {listed : Array Bool} {a : Act} {w : World} (hS : S w)
  (h : wpAnyH P md ops Q S fuel (listed.setIfInBounds i true) (a.put oi.dst v) w)
  (hi : ops.toList.drop i = oi :: rest := by rfl) (hs : Region.noSelect ops = true := by kernel_rfl) (hf : Region.free md ops listed i = true := by kernel_rfl) (hr : (Region.ready md ops listed).contains i = true := by kernel_rfl)
  (hQ : ∀ c a w, Q (.panic c) (a.put oi.dst v) w → Q (.panic c) a w := by exact fun _ _ _ h => h) (hw : Region.wanted oi (yielded ops a.tmps) = true := by kernel_rfl)
  (hv : ∀ w, S w → (execOp a.eval oi).run P w = .ok (.value v) w := by (intro w hSw; go_simp; try (with_reducible rfl))) : wpAnyH P md ops Q S (fuel + 1) listed a w :=
 r_take hi hs hf hr hQ hw hS hv h
theorem rl {i : Nat} {oi : Oper} {rest : List Oper} {v : Value} {fuel : Nat} {listed : Array Bool} {a : Act} {w : World} (hS : S w)
  (hv : ∀ w, S w → (execOp a.eval oi).run P w = .ok (.value v) w)
  (h : wpAnyH P md ops Q S fuel (listed.setIfInBounds i true) (a.put oi.dst v) w)
  (hi : ops.toList.drop i = oi :: rest := by rfl) (hs : Region.noSelect ops = true := by kernel_rfl) (hf : Region.free md ops listed i = true := by kernel_rfl) (hr : (Region.ready md ops listed).contains i = true := by kernel_rfl)
  (hQ : ∀ c a w, Q (.panic c) (a.put oi.dst v) w → Q (.panic c) a w := by exact fun _ _ _ h => h) (hw : Region.wanted oi (yielded ops a.tmps) = true := by kernel_rfl) : wpAnyH P md ops Q S (fuel + 1) listed a w :=
 r_take hi hs hf hr hQ hw hS hv h
theorem rc {i : Nat} {o : Oper} {rest : List Oper} {fuel : Nat} {listed : Array Bool} {a : Act} {w : World}
  (h : ∀ K' : Act → World → Prop, Shut (∀ a w, S w → (S w → wpAnyH P md ops Q S fuel (listed.setIfInBounds i true) a w) → K' a w) → Oper.wp P o a w K' Q)
  (hr : Region.ready md ops listed = [i] := by kernel_rfl) (hi : ops.toList.drop i = o :: rest := by rfl)
  (hw : Region.wanted o (yielded ops a.tmps) = true := by kernel_rfl) : wpAnyH P md ops Q S (fuel + 1) listed a w :=
 r_call hr hi hw h
end
end I0
namespace V1
open Go Go.RowKit Go.Shelf Go.Proofs Go.Proofs.YtalbgklfhabnkaaGreatDoor Ow Pl F1 T0
def NI (w : World) (k : Nat) : Prop := ∀ ad : Addr, ad.block = k → ∀ z, w.cell? ad = some (.int .i64 z) → z ≤ 0
structure St (O : List Nat) (w w' : World) : Prop where
 os : w'.os = w.os
 tape : w'.tape = w.tape
 output : w'.output = w.output
 size : w.heap.size ≤ w'.heap.size
 block : ∀ k, k < w.heap.size → w'.heap[k]? = w.heap[k]? ∨ (k ∈ O ∧ NI w k)
structure Yd (bs O : List Nat) (B : Nat) (w w' : World) : Prop where
 os : w'.os = w.os
 tape : w'.tape = w.tape
 output : w'.output = w.output
 size : w.heap.size ≤ w'.heap.size
 block : ∀ k, k < w.heap.size → w'.heap[k]? = w.heap[k]? ∨ (NI w k ∧ k ∉ O ∧ (k ∈ bs ∨ B ≤ k))
theorem St.refl (O : List Nat) (w : World) : St O w w := ⟨rfl, rfl, rfl, Nat.le_refl _, fun _ _ => .inl rfl⟩
theorem St.of_bel {u v : World} (h : Bel u v) (O : List Nat) : St O u v := ⟨h.out.os, h.out.tape, h.out.output, h.out.size, fun k hk => .inl (h.out.block k hk)⟩
theorem Yd.of_bel {u v : World} (h : Bel u v) (bs O : List Nat) (B : Nat) : Yd bs O B u v := ⟨h.out.os, h.out.tape, h.out.output, h.out.size, fun k hk => .inl (h.out.block k hk)⟩
theorem Yd.st {bs O : List Nat} {B : Nat} {u v : World} (h : Yd bs O B u v) : ∀ k, k < u.heap.size → v.heap[k]? = u.heap[k]? ∨ NI u k := fun k hk => (h.block k hk).imp id (·.1)
theorem ni_same {u v : World} {k : Nat} (h : v.heap[k]? = u.heap[k]?) (n : NI u k) : NI v k := fun ad e z hc => n ad e z (by
 unfold World.cell? at hc ⊢; rw [e] at hc ⊢; rw [← h]; exact hc)
theorem Yd.mono {bs bs' O O' : List Nat} {B B' : Nat} {u v : World} (h : Yd bs O B u v) (hb : ∀ k ∈ bs, k ∈ bs' ∨ B' ≤ k) (hB : B' ≤ B) (hO : ∀ k ∈ O', k ∈ O) : Yd bs' O' B' u v :=
 ⟨h.os, h.tape, h.output, h.size, fun k hk => (h.block k hk).imp id fun ⟨a, b, c⟩ => ⟨a, fun q => b (hO k q), by
  rcases c with c | c
  ·exact hb k c
  ·exact .inr (by omega)⟩⟩
theorem ni_loop {w : World} {l : Nat} {r : Loop} (h : w.heap[l]? = some (.loop r)) : NI w l := fun ad e z hc => by
 unfold World.cell? at hc; rw [e, h] at hc; simp at hc
theorem rd_keep {u v : World} {A : Option Addr} {x : Nat} (h : Rd u A (digs x)) (hs : ∀ k, k < u.heap.size → v.heap[k]? = u.heap[k]? ∨ NI u k) : Rd v A (digs x) := by
 refine ⟨h.max, fun j hj => ?_⟩
 obtain ⟨ad, e, hc⟩ := h.cell j hj
 refine ⟨ad, e, ?_⟩
 have hlt := World.block_lt_of_cell? u _ hc
 rw [add_block] at hlt
 have hsame : v.heap[ad.block]? = u.heap[ad.block]? := by
  rcases hs _ hlt with q | q
  ·exact q
  ·exfalso
   have hne : digs x ≠ [] := fun e => by rw [e] at hj; simp at hj
   have hlen : 0 < (digs x).length := List.length_pos_iff.2 hne
   obtain ⟨ad', e', hc'⟩ := h.cell ((digs x).length - 1) (by omega)
   rw [e] at e'; cases e'
   have h0 := q (ad.add ((digs x).length - 1)) (add_block _ _) _ hc'
   have hl := digs_can x
   have hlast : (digs x).getLast? = some (nth (digs x) ((digs x).length - 1)) := by
    rw [List.getLast?_eq_getElem?]; simp only [nth]
    rw [List.getElem?_eq_getElem (by omega), List.getD_eq_getElem?_getD, List.getElem?_eq_getElem (by omega)]; rfl
   have hmem : nth (digs x) ((digs x).length - 1) ∈ digs x := List.mem_of_getLast? hlast
   have h1 := (hl.1 _ hmem).1
   have : nth (digs x) ((digs x).length - 1) = 0 := by omega
   exact hl.2 (by rw [hlast, this])
 unfold World.cell? at hc ⊢
 rw [add_block] at hc ⊢
 rw [hsame]; exact hc
theorem dv_keep {u v : World} {A : Option Addr} {c : Nat} {x : Int} {L U : Nat} (h : Dv u A c x L U) (hs : ∀ k, k < u.heap.size → v.heap[k]? = u.heap[k]? ∨ NI u k) : Dv v A c x L U := ⟨h.cap, rd_keep h.rd hs, h.wd⟩
theorem blk_keep {u v : World} {b : Nat} {t : TypeId} {cs : List Value} (h : Blk u b t cs) (e : v.heap[b]? = u.heap[b]?) : Blk v b t cs := ⟨e.trans h.out⟩
theorem ni_blk {w : World} {b : Nat} {t : TypeId} {cs : List Value} (h : Blk w b t cs) (hc : ∀ (i : Nat) (z : Int), cs[i]? = some (Value.int .i64 z) → z ≤ 0) : NI w b := fun ad e z hq => by
 unfold World.cell? at hq; rw [e, h.out] at hq
 rcases ad with ⟨b', o, s⟩
 cases s <;> simp at hq
 exact hc o z hq
def bodyB {α : Type} (bs O : List Nat) (B : Nat) (I : List α → List Nat → World → Prop) (Ix : Code → List α → List Nat → World → Prop) (pre : List α) (W : World) : Exit → Act → World → Prop
 | .normal, _, w => Yd bs O B W w ∧ I pre O w
 | .ret, _, w => Yd bs O B W w ∧ Ix .ret pre O w
 | .exit id, _, w => Yd bs O B W w ∧ Ix (.exit id) pre O w
 | .goto t, _, w => Yd bs O B W w ∧ Ix (.goto t) pre O w
 | .panic _, _, _ => False
 | .outgrown, _, _ => False
def Abides (J : List Nat → World → Prop) : Prop := ∀ O A O' B, J O A → St O A B → (∀ k ∈ O, k ∈ O') → (∀ k ∈ O', k ∈ O ∨ (A.heap.size ≤ k ∧ k < B.heap.size)) → J O' B
def SeqB {α : Type} (P : Program) (n : Nat) (l : Nat) (gf : Nat) (lb : Array Value) (encs : α → Array Value) (ks : List Nat) (N : Nat) (Px : List α → α → World → Prop) (S Sp : List α → Prop) (W : World) (Bd : Prop := False) : Prop :=
 ∀ (J Jx : List α → List Nat → World → Prop), (Bd → ∀ pre O W, J pre O W → pre.length < N) → (∀ s, Abides (J s)) → (∀ s, Abides (Jx s)) →
  (∀ pre O x W1, J pre O W1 → pre.length < N → Px pre x W1 → (∀ k ∈ O, W.heap.size ≤ k) → W.heap.size ≤ W1.heap.size → YieldAt Fence.wide (n - 1) P l (encs x) W1 fun e W' =>
   (e = .returned (.bool true) ∧ J (pre ++ [x]) O W' ∧ Yd ks O W.heap.size W1 W') ∨ (e = .returned (.bool false) ∧ Jx (pre ++ [x]) O W' ∧ Yd ks O W.heap.size W1 W')) →
  J [] [] W → CallsIn Fence.wide n P gf (#[.func (.yield l) #[] #[]] ++ lb) W fun e W' => (∃ v, e = .returned v) ∧ ((∃ ys O, S ys ∧ J ys O W' ∧ ∀ k ∈ O, W.heap.size ≤ k) ∨ (∃ pre O, Sp pre ∧ Jx pre O W' ∧ ∀ k ∈ O, W.heap.size ≤ k))
theorem put_st {W : World} {l : Nat} {r : Loop} (h : W.heap[l]? = some (.loop r)) (o : Obj) {O : List Nat} (hl : l ∈ O) : St O W (W.putObj l o) :=
 ⟨rfl, rfl, rfl, by simp [World.putObj], fun k hk => by
  by_cases e : k = l
  ·subst e; exact .inr ⟨hl, ni_loop h⟩
  ·exact .inl (World.putObj_heap_other e)⟩
theorem rangeB {α : Type} {P : Program} {n : Nat} {g : Operand} {ps : Array Tmp} {assign body : Code} {Q : Exit → Act → World → Prop} {a : Act} {w : World}
  (h1 : 1 ≤ n) {gf : Nat} {lb : Array Value} (hg : a.eval g = .func (.func gf) #[] lb) (eg : ∀ args w, (callFunc gf args).run P w = .ok (.enter gf args) w)
  {encs : α → Array Value} (hps : ∀ x, (encs x).size = ps.size) {bs : List Nat} (hbs : ∀ b ∈ bs, b < w.heap.size) {N : Nat} {Px : List α → α → World → Prop} {S Sp : List α → Prop} {Bd : Prop}
  (hseq : ∀ W, W.heap.size = w.heap.size + 2 → Bel w W → SeqB P (n - 1) (w.heap.size + 1) gf lb encs (bs ++ [w.heap.size + 1]) N Px S Sp W Bd)
  (I : List α → List Nat → World → Prop) (Ix : Code → List α → List Nat → World → Prop) (hBd : Bd → ∀ pre O W, I pre O W → pre.length < N) (hI : ∀ s, Abides (I s)) (hIx : ∀ c s, Abides (Ix c s)) (h0 : I [] [] w)
  (Ax : List α → α → Act → World → Prop) (hAx : ∀ pre x a' A r o, A.heap[w.heap.size + 1]? = some (.loop r) → Ax pre x a' A → Ax pre x a' (A.putObj (w.heap.size + 1) o))
  (hassign : ∀ (l : Nat) (pre : List α) (O : List Nat) (x : α) (W : World) (K : Act → World → Prop), I pre O W → w.heap.size + 1 < W.heap.size → Px pre x W → (∀ a' W1, Bel W W1 → Ax pre x a' W1 → K a' W1) →
   assign.wpIn (Fence.wide.inRound l) (n - 1 - 1) P (Exit.then K (fun _ _ _ => False)) { tmps := (ps.zip (encs x)).foldl (fun t (p, v) => t.setIfInBounds p v) a.tmps, defers := [] } W)
  (hbody : ∀ (l : Nat) (pre : List α) (O : List Nat) (x : α) (a' : Act) (W : World), I pre O W → pre.length < N → w.heap.size + 1 < W.heap.size → Ax pre x a' W → (∀ k ∈ O, w.heap.size + 1 ≤ k) → (w.heap.size + 1) ∈ O →
   body.wpIn (Fence.wide.inRound l) (n - 1 - 1) P (bodyB bs O (w.heap.size + 2) I Ix (pre ++ [x]) W) a' W)
  (hdone : ∀ (ys : List α) (O : List Nat) (W : World), w.heap.size + 1 < W.heap.size → S ys → I ys O W → W.heap[w.heap.size]? = some (.deferred (some [])) → Q .normal { a with defers := { target := .collected w.heap.size, args := #[] } :: a.defers } W)
  (hstop : ∀ (c : Code) (pre : List α) (O : List Nat) (W : World), w.heap.size + 1 < W.heap.size → Sp pre → Ix c pre O W → W.heap[w.heap.size]? = some (.deferred (some [])) → c.wpIn Fence.wide n P Q { a with defers := { target := .collected w.heap.size, args := #[] } :: a.defers } W) :
  (Code.rangeFunc g ps assign body).wpIn Fence.wide n P Q a w := by
 apply wpIn_rangeFunc
 intro fn _
 obtain ⟨rec, hrec⟩ : ∃ rec : LoopState → Option Code → Loop, rec = fun st pe => { state := st, pending := pe, fn, tmps := a.tmps, params := ps, assign, body, defers := w.heap.size } := ⟨_, rfl⟩
 have R0 : (Instr.enterLoop fn a.tmps ps assign body none).run P w = .ok (w.heap.size + 1, [{ target := .collected w.heap.size, args := #[] }]) ((w.alloc (.deferred (some []))).alloc (.loop (rec .ready none))) := by
  rw [hrec]; exact run_enterLoop_outer fn a.tmps ps assign body
 have L1 : ((w.alloc (.deferred (some []))).alloc (.loop (rec .ready none))).heap[w.heap.size + 1]? = some (.loop (rec .ready none)) := by
  have := World.alloc_heap_new (w.alloc (.deferred (some []))) (.loop (rec .ready none))
  rwa [World.size_alloc] at this
 have D1 : ((w.alloc (.deferred (some []))).alloc (.loop (rec .ready none))).heap[w.heap.size]? = some (.deferred (some [])) :=
  (Below.heap_alloc _ _ _ (by simp)).trans (World.alloc_heap_new w _)
 have B1 : Bel w ((w.alloc (.deferred (some []))).alloc (.loop (rec .ready none))) := ((Bel.refl w).alloc _).alloc _
 have Z1 : ((w.alloc (.deferred (some []))).alloc (.loop (rec .ready none))).heap.size = w.heap.size + 2 := by simp only [World.size_alloc]
 generalize (w.alloc (.deferred (some []))).alloc (.loop (rec .ready none)) = W1 at R0 L1 D1 B1 Z1
 refine ⟨w.heap.size + 1, [{ target := .collected w.heap.size, args := #[] }], W1, { target := .fn (.func gf) lb, args := #[.func (.yield (w.heap.size + 1)) #[] #[]] }, W1, gf, #[.func (.yield (w.heap.size + 1)) #[] #[]] ++ lb, W1, R0, ?_, fun _ _ => trivial, ?_, fun _ => h1, ?_⟩
 ·simp only [resolve, hg]; simp [go_sem]
 ·simp [invoke, go_sem, eg]
 -- what stays of the loop's record and of the deferred block, when the iterator steps
 have kept : ∀ {O : List Nat} {A B : World} {k : Nat} {o : Obj}, St O A B → (∀ k ∈ O, w.heap.size + 2 ≤ k) → k < w.heap.size + 2 → A.heap[k]? = some o → B.heap[k]? = some o := fun {O A B k o} hs ho hk he => by
  have hlt : k < A.heap.size := (Array.getElem?_eq_some_iff.1 he).1
  rcases hs.block k hlt with q | ⟨q, _⟩
  ·exact q.trans he
  ·have := ho k q; omega
 have cons : ∀ {J : List Nat → World → Prop}, Abides J → Abides fun O W => J ((w.heap.size + 1) :: O) W := fun hJ O A O' B h hs h1 h2 =>
  hJ ((w.heap.size + 1) :: O) A ((w.heap.size + 1) :: O') B h ⟨hs.os, hs.tape, hs.output, hs.size, fun k hk => (hs.block k hk).imp id fun ⟨x, y⟩ => ⟨List.mem_cons_of_mem _ x, y⟩⟩
   (fun k hk => (List.mem_cons.1 hk).elim (fun e => e ▸ List.mem_cons_self) (fun q => List.mem_cons_of_mem _ (h1 k q)))
   (fun k hk => (List.mem_cons.1 hk).elim (fun e => .inl (e ▸ List.mem_cons_self)) (fun q => (h2 k q).imp (List.mem_cons_of_mem _) id))
 refine (hseq W1 Z1 B1 (fun pre O W => I pre ((w.heap.size + 1) :: O) W ∧ (∀ k ∈ O, w.heap.size + 2 ≤ k) ∧ w.heap.size + 2 ≤ W.heap.size ∧ W.heap[w.heap.size + 1]? = some (.loop (rec .ready none)) ∧ W.heap[w.heap.size]? = some (.deferred (some [])))
  (fun pre O W => ∃ c, Ix c pre ((w.heap.size + 1) :: O) W ∧ (∀ k ∈ O, w.heap.size + 2 ≤ k) ∧ w.heap.size + 2 ≤ W.heap.size ∧ W.heap[w.heap.size + 1]? = some (.loop (rec .done (some c))) ∧ W.heap[w.heap.size]? = some (.deferred (some []))) (fun hb pre O W h => hBd hb pre _ W h.1) ?_ ?_ ?_ ?_).mono ?_
 ·rintro s O A O' B ⟨x, o, sz, y, z⟩ hb h1 h2
  exact ⟨cons (hI s) _ _ _ _ x hb h1 h2, fun k hk => (h2 k hk).elim (o k) (fun q => by omega), Nat.le_trans sz hb.size, kept hb o (by omega) y, kept hb o (by omega) z⟩
 ·rintro s O A O' B ⟨c, x, o, sz, y, z⟩ hb h1 h2
  exact ⟨c, cons (hIx c s) _ _ _ _ x hb h1 h2, fun k hk => (h2 k hk).elim (o k) (fun q => by omega), Nat.le_trans sz hb.size, kept hb o (by omega) y, kept hb o (by omega) z⟩
 ·rintro pre O x W ⟨hi, ho, hsw, hl, hd⟩ hlen hpx hok hsz
  have hy := run_yield (P := P) (args := encs x) hl (by rw [hrec]; exact hps x)
  rw [hrec] at hy
  refine ⟨fn, _, assign, body, hy, roundIn_of_wpIn trivial (hassign _ pre _ x W _ hi (by omega) hpx ?_)⟩
  intro a' W2 b2 ax2
  have hl2 := (b2.out.block _ (by omega)).trans hl
  have hd2 := (b2.out.block _ (by omega)).trans hd
  have z2 := b2.size
  refine ⟨_, run_beginRound hl2 (by rw [hrec]), ?_⟩
  have lt2 : w.heap.size + 1 < W2.heap.size := by omega
  have hl3 : (W2.putObj (w.heap.size + 1) (.loop { rec .ready none with state := .busy })).heap[w.heap.size + 1]? = some (.loop { rec .ready none with state := .busy }) := World.putObj_heap_same lt2
  have hd3 : (W2.putObj (w.heap.size + 1) (.loop { rec .ready none with state := .busy })).heap[w.heap.size]? = some (.deferred (some [])) := (World.putObj_heap_other (by omega)).trans hd2
  have z3 : (W2.putObj (w.heap.size + 1) (.loop { rec .ready none with state := .busy })).heap.size = W2.heap.size := by simp [World.putObj]
  have k3 : ∀ k, k < W.heap.size → k ≠ w.heap.size + 1 → (W2.putObj (w.heap.size + 1) (.loop { rec .ready none with state := .busy })).heap[k]? = W.heap[k]? := fun k hk hn => (World.putObj_heap_other hn).trans (b2.out.block k hk)
  have e3 : (W2.putObj (w.heap.size + 1) (.loop { rec .ready none with state := .busy })).os = W.os ∧ (W2.putObj (w.heap.size + 1) (.loop { rec .ready none with state := .busy })).tape = W.tape ∧ (W2.putObj (w.heap.size + 1) (.loop { rec .ready none with state := .busy })).output = W.output := ⟨b2.out.os, b2.out.tape, b2.out.output⟩
  have i3 : I pre ((w.heap.size + 1) :: O) (W2.putObj (w.heap.size + 1) (.loop { rec .ready none with state := .busy })) :=
   hI _ _ _ _ _ (hI _ _ _ _ _ hi (St.of_bel b2 _) (fun _ h => h) (fun _ h => .inl h)) (put_st hl2 _ List.mem_cons_self) (fun _ h => h) (fun _ h => .inl h)
  have a3 := hAx pre x a' W2 _ (.loop { rec .ready none with state := .busy }) hl2 ax2
  generalize W2.putObj (w.heap.size + 1) (.loop { rec .ready none with state := .busy }) = W3 at hl3 hd3 z3 k3 i3 a3 e3
  refine wpIn_mono (hbody _ pre ((w.heap.size + 1) :: O) x a' W3 i3 hlen (by omega) a3 (fun k hk => (List.mem_cons.1 hk).elim (fun e => by omega) (fun q => by have := ho k q; omega)) List.mem_cons_self) ?_
  have fin : ∀ (j : Option Code) (W4 : World), Yd bs ((w.heap.size + 1) :: O) (w.heap.size + 2) W3 W4 →
    (Instr.endRound (w.heap.size + 1) j).run P W4 = .ok (.bool j.isNone) (W4.putObj (w.heap.size + 1) (.loop (rec (if j.isNone then .ready else .done) j))) ∧
    (W4.putObj (w.heap.size + 1) (.loop (rec (if j.isNone then .ready else .done) j))).heap[w.heap.size + 1]? = some (.loop (rec (if j.isNone then .ready else .done) j)) ∧
    (W4.putObj (w.heap.size + 1) (.loop (rec (if j.isNone then .ready else .done) j))).heap[w.heap.size]? = some (.deferred (some [])) ∧
    w.heap.size + 2 ≤ (W4.putObj (w.heap.size + 1) (.loop (rec (if j.isNone then .ready else .done) j))).heap.size ∧
    Yd (bs ++ [w.heap.size + 1]) O W1.heap.size W (W4.putObj (w.heap.size + 1) (.loop (rec (if j.isNone then .ready else .done) j))) ∧
    (∃ r, W4.heap[w.heap.size + 1]? = some (.loop r)) := fun j W4 k4 => by
   have hl4 : W4.heap[w.heap.size + 1]? = some (.loop { rec .ready none with state := .busy }) := by
    rcases k4.block (w.heap.size + 1) (by omega) with q | ⟨_, q, _⟩
    ·exact q.trans hl3
    ·exact (q List.mem_cons_self).elim
   have hd4 : W4.heap[w.heap.size]? = some (.deferred (some [])) := by
    rcases k4.block w.heap.size (by omega) with q | ⟨_, _, q | q⟩
    ·exact q.trans hd3
    ·exact (Nat.lt_irrefl _ (hbs _ q)).elim
    ·omega
   have e := run_endRound (P := P) j hl4
   have z4 := k4.size
   refine ⟨?_, World.putObj_heap_same (by omega), (World.putObj_heap_other (by omega)).trans hd4, by simp only [World.putObj, Array.size_setIfInBounds, Array.size_modify] at *; omega, ⟨k4.os.trans e3.1, k4.tape.trans e3.2.1, k4.output.trans e3.2.2, by simp only [World.putObj, Array.size_setIfInBounds, Array.size_modify] at *; omega, fun k hk => ?_⟩, _, hl4⟩
   ·rw [hrec] at e ⊢
    exact e
   ·by_cases ek : k = w.heap.size + 1
    ·subst ek
     exact .inr ⟨ni_loop hl, fun q => by have := ho _ q; omega, .inl (by simp)⟩
    ·rcases k4.block k (by omega) with q | ⟨q1, q2, q3⟩
     ·exact .inl ((World.putObj_heap_other ek).trans (q.trans (k3 k hk ek)))
     ·refine .inr ⟨ni_same (k3 k hk ek).symm q1, fun q => q2 (List.mem_cons_of_mem _ q), ?_⟩
      rcases q3 with q3 | q3
      ·exact .inl (by simp [q3])
      ·exact .inr (by omega)
  have putI : ∀ {J : List Nat → World → Prop} {W4 : World} {o : Obj}, Abides J → (∃ r, W4.heap[w.heap.size + 1]? = some (.loop r)) → J ((w.heap.size + 1) :: O) W4 → J ((w.heap.size + 1) :: O) (W4.putObj (w.heap.size + 1) o) :=
   fun hJ ⟨r, hr⟩ h => hJ _ _ _ _ h (put_st hr _ List.mem_cons_self) (fun _ h => h) (fun _ h => .inl h)
  rintro e a4 W4 hp
  cases e with
  | normal =>
   obtain ⟨k4, i4⟩ := hp
   obtain ⟨f1, f2, f3, f4, f5, f6⟩ := fin none W4 k4
   exact ⟨_, _, f1, .inl ⟨rfl, ⟨putI (hI _) f6 i4, ho, f4, f2, f3⟩, f5⟩⟩
  | ret =>
   obtain ⟨k4, i4⟩ := hp
   obtain ⟨f1, f2, f3, f4, f5, f6⟩ := fin (some .ret) W4 k4
   exact ⟨_, _, f1, .inr ⟨rfl, ⟨.ret, putI (hIx _ _) f6 i4, ho, f4, f2, f3⟩, f5⟩⟩
  | exit id =>
   obtain ⟨k4, i4⟩ := hp
   obtain ⟨f1, f2, f3, f4, f5, f6⟩ := fin (some (.exit id)) W4 k4
   exact ⟨_, _, f1, .inr ⟨rfl, ⟨.exit id, putI (hIx _ _) f6 i4, ho, f4, f2, f3⟩, f5⟩⟩
  | goto t =>
   obtain ⟨k4, i4⟩ := hp
   obtain ⟨f1, f2, f3, f4, f5, f6⟩ := fin (some (.goto t)) W4 k4
   exact ⟨_, _, f1, .inr ⟨rfl, ⟨.goto t, putI (hIx _ _) f6 i4, ho, f4, f2, f3⟩, f5⟩⟩
  | panic _ => exact hp.elim
  | outgrown => exact hp.elim
 ·refine ⟨hI _ _ _ _ _ h0 (St.of_bel B1 _) (fun k hk => by simp at hk) (fun k hk => .inr (by simp at hk; omega)), by simp, by omega, L1, D1⟩
 ·rintro e W2 ⟨⟨v, rfl⟩, hr⟩
  rcases hr with ⟨ys, O, hs, ⟨hi, ho, hsz, hl, hd⟩, _⟩ | ⟨pre, O, hs, ⟨c, hi, ho, hsz, hl, hd⟩, _⟩
  ·have e := run_endLoop (P := P) hl (by rw [hrec]; simp)
   have lt := (Array.getElem?_eq_some_iff.1 hl).1
   refine ⟨none, W2.putObj (w.heap.size + 1) (.loop { rec .ready none with state := .exhausted }), by rw [e, hrec], ?_⟩
   exact hdone ys _ _ (by simpa [World.putObj] using lt) hs (hI _ _ _ _ _ hi (put_st hl _ List.mem_cons_self) (fun _ h => h) (fun _ h => .inl h)) ((World.putObj_heap_other (by omega)).trans hd)
  ·have e := run_endLoop (P := P) hl (by rw [hrec]; simp)
   have lt := (Array.getElem?_eq_some_iff.1 hl).1
   refine ⟨some c, W2.putObj (w.heap.size + 1) (.loop { rec .done (some c) with state := .exhausted }), by rw [e, hrec], ?_⟩
   exact hstop c pre _ _ (by simpa [World.putObj] using lt) hs (hIx _ _ _ _ _ _ hi (put_st hl _ List.mem_cons_self) (fun _ h => h) (fun _ h => .inl h)) ((World.putObj_heap_other (by omega)).trans hd)
end V1
namespace I1
open Go Go.RowKit Go.Proofs.YtalbgklfhabnkaaGreatDoor Ow Pl Dp Dt D3 F1 T0 I0
attribute [local go_sem ↓] Go.wp_at_zero Go.wp_at_succ
theorem dFlip {A0 B0 : Option Addr} {c0 d0 : Nat} {a : Iv} {L0 U0 : Nat} (w : World) (T : Tab w) (p0l : Dv w A0 c0 a.1 L0 U0) (p0h : Dv w B0 d0 a.2 L0 U0) (hL0 : L0 ≤ 3000) (hU0 : U0 ≤ 3000) :
  Calls Tryz.prog 179 #[.agg #[.bool (dneg a.1), .slice A0 (digs (dm a.1)).length c0, .int .i64 (de a.1), .bool (dneg a.2), .slice B0 (digs (dm a.2)).length d0, .int .i64 (de a.2)]] w (MakesI w (iflip a) L0 U0) := by
 have TT := Ho.mk T
 clear T
 go_enter Tryz.func179, Tryz.ntmps179
 go_wp2_with fail
 have KB1 := Ho.mk (Blk.new w [.bool (dneg a.1), .slice A0 (digs (dm a.1)).length c0, .int .i64 (de a.1), .bool (dneg a.2), .slice B0 (digs (dm a.2)).length d0, .int .i64 (de a.2)] 42)
 have g0 := (Bel.refl w).alloc (.cells #[.bool (dneg a.1), .slice A0 (digs (dm a.1)).length c0, .int .i64 (de a.1), .bool (dneg a.2), .slice B0 (digs (dm a.2)).length d0, .int .i64 (de a.2)] 42)
 have hS : (w.alloc (.cells #[.bool (dneg a.1), .slice A0 (digs (dm a.1)).length c0, .int .i64 (de a.1), .bool (dneg a.2), .slice B0 (digs (dm a.2)).length d0, .int .i64 (de a.2)] 42)).heap.size = w.heap.size + 1 := by simp only [World.size_alloc]
 have hZ : (w.alloc (.cells #[.bool (dneg a.1), .slice A0 (digs (dm a.1)).length c0, .int .i64 (de a.1), .bool (dneg a.2), .slice B0 (digs (dm a.2)).length d0, .int .i64 (de a.2)] 42)) = (w.alloc (.cells #[.bool (dneg a.1), .slice A0 (digs (dm a.1)).length c0, .int .i64 (de a.1), .bool (dneg a.2), .slice B0 (digs (dm a.2)).length d0, .int .i64 (de a.2)] 42)) := rfl
 generalize (w.alloc (.cells #[.bool (dneg a.1), .slice A0 (digs (dm a.1)).length c0, .int .i64 (de a.1), .bool (dneg a.2), .slice B0 (digs (dm a.2)).length d0, .int .i64 (de a.2)] 42)) = w0 at *
 clear hZ
 have KR := Ho.mk (Blk.new w0 [.bool false, .slice none 0 0, .int .i64 0, .bool false, .slice none 0 0, .int .i64 0] 42)
 rw [hS] at KR
 have KB1_r1 := Ho.mk (KB1.out)
 obtain ⟨yB1_r1_0, yB1_r1_1, yB1_r1_2, yB1_r1_3, yB1_r1_4, yB1_r1_5⟩ := KB1_r1.out.c6
 refine wp_region_held_drew (S := fun w' => Bel w0 w') (by kernel_rfl) ((Bel.refl _).alloc (.cells #[.bool false, .slice none 0 0, .int .i64 0, .bool false, .slice none 0 0, .int .i64 0] 42)).drew (fun hHeld => ?_)
 (try dsimp only at hHeld)
 refine rt (i := 0) hHeld ?_
 refine rl (i := 1) (v := ?_) hHeld (fun w hSw => ?_) ?_
 rotate_left
 ·(have z3 := hSw.cell yB1_r1_3; have z4 := hSw.cell yB1_r1_4; have z5 := hSw.cell yB1_r1_5; go_simp; try (with_reducible rfl))
 refine rt (i := 3) hHeld ?_
 refine rl (i := 4) (v := ?_) hHeld (fun w hSw => ?_) ?_
 rotate_left
 ·(have z0 := hSw.cell yB1_r1_0; have z1 := hSw.cell yB1_r1_1; have z2 := hSw.cell yB1_r1_2; go_simp; try (with_reducible rfl))
 try simp only [Act.put, Ow.zS, Ow.zC, Ow.zD]
 refine rc (i := 2) (fun K hK => ?_)
 go_simp
 go_at_call 173
 (with_reducible refine (F1.dFlip (TT.out.bel (g0.trans (((Bel.refl _).alloc (.cells #[.bool false, .slice none 0 0, .int .i64 0, .bool false, .slice none 0 0, .int .i64 0] 42)).drew))) ((p0h.bel g0).bel (((Bel.refl _).alloc (.cells #[.bool false, .slice none 0 0, .int .i64 0, .bool false, .slice none 0 0, .int .i64 0] 42)).drew)) (by omega)).mono ?_); rintro e w1 ⟨A1, c1, rfl, n1, b1⟩
 try go_wp2_with fail
 refine hK.out _ _ (Bel.trans hHeld b1) (fun hHeld => ?_)
 clear hK K
 try simp only [Act.put, Ow.zS, Ow.zC, Ow.zD]
 refine rc (i := 5) (fun K hK => ?_)
 go_simp
 go_at_call 173
 (with_reducible refine (F1.dFlip (TT.out.bel (g0.trans ((((Bel.refl _).alloc (.cells #[.bool false, .slice none 0 0, .int .i64 0, .bool false, .slice none 0 0, .int .i64 0] 42)).drew).trans b1))) ((p0l.bel g0).bel ((((Bel.refl _).alloc (.cells #[.bool false, .slice none 0 0, .int .i64 0, .bool false, .slice none 0 0, .int .i64 0] 42)).drew).trans b1)) (by omega)).mono ?_); rintro e w2 ⟨A2, c2, rfl, n2, b2⟩
 try go_wp2_with fail
 refine hK.out _ _ (Bel.trans hHeld b2) (fun hHeld => ?_)
 clear hK K
 refine rt (i := 6) hHeld ?_
 try simp only [Act.put, Ow.zS, Ow.zC, Ow.zD]
 refine rc (i := 7) (fun K hK => ?_)
 have KRz := Ho.mk ((KR.out.bel ((((Bel.refl _).drew).trans b1).trans b2)))
 have yr0 := KRz.out.cell (i := 0) rfl
 have zr0 := KRz.out.free 0
 have yr1 := KRz.out.cell (i := 1) rfl
 have zr1 := KRz.out.free 1
 have yr2 := KRz.out.cell (i := 2) rfl
 have zr2 := KRz.out.free 2
 have yr3 := KRz.out.cell (i := 3) rfl
 have zr3 := KRz.out.free 3
 have yr4 := KRz.out.cell (i := 4) rfl
 have zr4 := KRz.out.free 4
 have yr5 := KRz.out.cell (i := 5) rfl
 have zr5 := KRz.out.free 5
 go_simp
 refine hK.out _ _ (I0.bel_set6 hHeld (Nat.le_of_eq hS) _ _ _ _ _ _) (fun hHeld => ?_)
 clear hK K
 try simp only [Act.put, Ow.zS, Ow.zC, Ow.zD]
 refine wpAnyH_done (by kernel_rfl) ?_ _
 have BZ := Ho.mk (g0.trans (((((Bel.refl _).alloc (.cells #[.bool false, .slice none 0 0, .int .i64 0, .bool false, .slice none 0 0, .int .i64 0] 42)).drew).trans b1).trans b2))
 have HZ0 := Ho.mk (n1.bel ((Bel.refl _).trans b2))
 have HZ1 := Ho.mk n2
 go_wp2
 exact I0.gives_endI (fn := Tryz.f179) (i := ((-a.2), (-a.1))) rfl rfl BZ.out (by omega) KRz.out (HZ0.out.mono (by omega) (by omega)) (HZ1.out.mono (by omega) (by omega))
theorem dAdd {A0 B0 : Option Addr} {c0 d0 : Nat} {a : Iv} {L0 U0 : Nat} {A1 B1 : Option Addr} {c1 d1 : Nat} {b : Iv} {L1 U1 : Nat} (w : World) (T : Tab w) (p0l : Dv w A0 c0 a.1 L0 U0) (p0h : Dv w B0 d0 a.2 L0 U0) (hL0 : L0 ≤ 3000) (hU0 : U0 ≤ 3000) (p1l : Dv w A1 c1 b.1 L1 U1) (p1h : Dv w B1 d1 b.2 L1 U1) (hL1 : L1 ≤ 3000) (hU1 : U1 ≤ 3000) :
  Calls Tryz.prog 213 #[.agg #[.bool (dneg a.1), .slice A0 (digs (dm a.1)).length c0, .int .i64 (de a.1), .bool (dneg a.2), .slice B0 (digs (dm a.2)).length d0, .int .i64 (de a.2)], .agg #[.bool (dneg b.1), .slice A1 (digs (dm b.1)).length c1, .int .i64 (de b.1), .bool (dneg b.2), .slice B1 (digs (dm b.2)).length d1, .int .i64 (de b.2)]] w (MakesI w (iadd a b) (L0 + L1) (U0 + U1 + 1)) := by
 have TT := Ho.mk T
 clear T
 go_enter Tryz.func213, Tryz.ntmps213
 go_wp2_with fail
 have KB2 := Ho.mk ((Blk.new w [.bool (dneg a.1), .slice A0 (digs (dm a.1)).length c0, .int .i64 (de a.1), .bool (dneg a.2), .slice B0 (digs (dm a.2)).length d0, .int .i64 (de a.2)] 42).old (.cells #[.bool (dneg b.1), .slice A1 (digs (dm b.1)).length c1, .int .i64 (de b.1), .bool (dneg b.2), .slice B1 (digs (dm b.2)).length d1, .int .i64 (de b.2)] 42))
 have KB3 := Ho.mk (Blk.new (w.alloc (.cells #[.bool (dneg a.1), .slice A0 (digs (dm a.1)).length c0, .int .i64 (de a.1), .bool (dneg a.2), .slice B0 (digs (dm a.2)).length d0, .int .i64 (de a.2)] 42)) [.bool (dneg b.1), .slice A1 (digs (dm b.1)).length c1, .int .i64 (de b.1), .bool (dneg b.2), .slice B1 (digs (dm b.2)).length d1, .int .i64 (de b.2)] 42)
 rw [World.size_alloc] at KB3
 have g0 := ((Bel.refl w).alloc (.cells #[.bool (dneg a.1), .slice A0 (digs (dm a.1)).length c0, .int .i64 (de a.1), .bool (dneg a.2), .slice B0 (digs (dm a.2)).length d0, .int .i64 (de a.2)] 42)).alloc (.cells #[.bool (dneg b.1), .slice A1 (digs (dm b.1)).length c1, .int .i64 (de b.1), .bool (dneg b.2), .slice B1 (digs (dm b.2)).length d1, .int .i64 (de b.2)] 42)
 have hS : ((w.alloc (.cells #[.bool (dneg a.1), .slice A0 (digs (dm a.1)).length c0, .int .i64 (de a.1), .bool (dneg a.2), .slice B0 (digs (dm a.2)).length d0, .int .i64 (de a.2)] 42)).alloc (.cells #[.bool (dneg b.1), .slice A1 (digs (dm b.1)).length c1, .int .i64 (de b.1), .bool (dneg b.2), .slice B1 (digs (dm b.2)).length d1, .int .i64 (de b.2)] 42)).heap.size = w.heap.size + 1 + 1 := by simp only [World.size_alloc]
 have hZ : ((w.alloc (.cells #[.bool (dneg a.1), .slice A0 (digs (dm a.1)).length c0, .int .i64 (de a.1), .bool (dneg a.2), .slice B0 (digs (dm a.2)).length d0, .int .i64 (de a.2)] 42)).alloc (.cells #[.bool (dneg b.1), .slice A1 (digs (dm b.1)).length c1, .int .i64 (de b.1), .bool (dneg b.2), .slice B1 (digs (dm b.2)).length d1, .int .i64 (de b.2)] 42)) = ((w.alloc (.cells #[.bool (dneg a.1), .slice A0 (digs (dm a.1)).length c0, .int .i64 (de a.1), .bool (dneg a.2), .slice B0 (digs (dm a.2)).length d0, .int .i64 (de a.2)] 42)).alloc (.cells #[.bool (dneg b.1), .slice A1 (digs (dm b.1)).length c1, .int .i64 (de b.1), .bool (dneg b.2), .slice B1 (digs (dm b.2)).length d1, .int .i64 (de b.2)] 42)) := rfl
 generalize ((w.alloc (.cells #[.bool (dneg a.1), .slice A0 (digs (dm a.1)).length c0, .int .i64 (de a.1), .bool (dneg a.2), .slice B0 (digs (dm a.2)).length d0, .int .i64 (de a.2)] 42)).alloc (.cells #[.bool (dneg b.1), .slice A1 (digs (dm b.1)).length c1, .int .i64 (de b.1), .bool (dneg b.2), .slice B1 (digs (dm b.2)).length d1, .int .i64 (de b.2)] 42)) = w0 at *
 clear hZ
 have KR := Ho.mk (Blk.new w0 [.bool false, .slice none 0 0, .int .i64 0, .bool false, .slice none 0 0, .int .i64 0] 42)
 rw [hS] at KR
 have KB2_r1 := Ho.mk (KB2.out)
 obtain ⟨yB2_r1_0, yB2_r1_1, yB2_r1_2, yB2_r1_3, yB2_r1_4, yB2_r1_5⟩ := KB2_r1.out.c6
 have KB3_r1 := Ho.mk (KB3.out)
 obtain ⟨yB3_r1_0, yB3_r1_1, yB3_r1_2, yB3_r1_3, yB3_r1_4, yB3_r1_5⟩ := KB3_r1.out.c6
 refine wp_region_held_drew (S := fun w' => Bel w0 w') (by kernel_rfl) ((Bel.refl _).alloc (.cells #[.bool false, .slice none 0 0, .int .i64 0, .bool false, .slice none 0 0, .int .i64 0] 42)).drew (fun hHeld => ?_)
 (try dsimp only at hHeld)
 refine rt (i := 0) hHeld ?_
 refine rl (i := 1) (v := ?_) hHeld (fun w hSw => ?_) ?_
 rotate_left
 ·(have z0 := hSw.cell yB2_r1_0; have z1 := hSw.cell yB2_r1_1; have z2 := hSw.cell yB2_r1_2; go_simp; try (with_reducible rfl))
 refine rt (i := 2) hHeld ?_
 refine rl (i := 3) (v := ?_) hHeld (fun w hSw => ?_) ?_
 rotate_left
 ·(have z0 := hSw.cell yB3_r1_0; have z1 := hSw.cell yB3_r1_1; have z2 := hSw.cell yB3_r1_2; go_simp; try (with_reducible rfl))
 refine rt (i := 5) hHeld ?_
 refine rl (i := 6) (v := ?_) hHeld (fun w hSw => ?_) ?_
 rotate_left
 ·(have z3 := hSw.cell yB2_r1_3; have z4 := hSw.cell yB2_r1_4; have z5 := hSw.cell yB2_r1_5; go_simp; try (with_reducible rfl))
 refine rt (i := 7) hHeld ?_
 refine rl (i := 8) (v := ?_) hHeld (fun w hSw => ?_) ?_
 rotate_left
 ·(have z3 := hSw.cell yB3_r1_3; have z4 := hSw.cell yB3_r1_4; have z5 := hSw.cell yB3_r1_5; go_simp; try (with_reducible rfl))
 try simp only [Act.put, Ow.zS, Ow.zC, Ow.zD]
 refine rc (i := 4) (fun K hK => ?_)
 go_simp
 go_at_call 194
 (with_reducible refine (F1.dAdd (TT.out.bel (g0.trans (((Bel.refl _).alloc (.cells #[.bool false, .slice none 0 0, .int .i64 0, .bool false, .slice none 0 0, .int .i64 0] 42)).drew))) ((p0l.bel g0).bel (((Bel.refl _).alloc (.cells #[.bool false, .slice none 0 0, .int .i64 0, .bool false, .slice none 0 0, .int .i64 0] 42)).drew)) ((p1l.bel g0).bel (((Bel.refl _).alloc (.cells #[.bool false, .slice none 0 0, .int .i64 0, .bool false, .slice none 0 0, .int .i64 0] 42)).drew)) (by omega) (by omega)).mono ?_); rintro e w1 ⟨A1, c1, rfl, n1, b1⟩
 try go_wp2_with fail
 refine hK.out _ _ (Bel.trans hHeld b1) (fun hHeld => ?_)
 clear hK K
 try simp only [Act.put, Ow.zS, Ow.zC, Ow.zD]
 refine rc (i := 9) (fun K hK => ?_)
 go_simp
 go_at_call 194
 (with_reducible refine (F1.dAdd (TT.out.bel (g0.trans ((((Bel.refl _).alloc (.cells #[.bool false, .slice none 0 0, .int .i64 0, .bool false, .slice none 0 0, .int .i64 0] 42)).drew).trans b1))) ((p0h.bel g0).bel ((((Bel.refl _).alloc (.cells #[.bool false, .slice none 0 0, .int .i64 0, .bool false, .slice none 0 0, .int .i64 0] 42)).drew).trans b1)) ((p1h.bel g0).bel ((((Bel.refl _).alloc (.cells #[.bool false, .slice none 0 0, .int .i64 0, .bool false, .slice none 0 0, .int .i64 0] 42)).drew).trans b1)) (by omega) (by omega)).mono ?_); rintro e w2 ⟨A2, c2, rfl, n2, b2⟩
 try go_wp2_with fail
 refine hK.out _ _ (Bel.trans hHeld b2) (fun hHeld => ?_)
 clear hK K
 refine rt (i := 10) hHeld ?_
 try simp only [Act.put, Ow.zS, Ow.zC, Ow.zD]
 refine rc (i := 11) (fun K hK => ?_)
 have KRz := Ho.mk ((KR.out.bel ((((Bel.refl _).drew).trans b1).trans b2)))
 have yr0 := KRz.out.cell (i := 0) rfl
 have zr0 := KRz.out.free 0
 have yr1 := KRz.out.cell (i := 1) rfl
 have zr1 := KRz.out.free 1
 have yr2 := KRz.out.cell (i := 2) rfl
 have zr2 := KRz.out.free 2
 have yr3 := KRz.out.cell (i := 3) rfl
 have zr3 := KRz.out.free 3
 have yr4 := KRz.out.cell (i := 4) rfl
 have zr4 := KRz.out.free 4
 have yr5 := KRz.out.cell (i := 5) rfl
 have zr5 := KRz.out.free 5
 go_simp
 refine hK.out _ _ (I0.bel_set6 hHeld (Nat.le_of_eq hS) _ _ _ _ _ _) (fun hHeld => ?_)
 clear hK K
 try simp only [Act.put, Ow.zS, Ow.zC, Ow.zD]
 refine wpAnyH_done (by kernel_rfl) ?_ _
 have BZ := Ho.mk (g0.trans (((((Bel.refl _).alloc (.cells #[.bool false, .slice none 0 0, .int .i64 0, .bool false, .slice none 0 0, .int .i64 0] 42)).drew).trans b1).trans b2))
 have HZ0 := Ho.mk (n1.bel ((Bel.refl _).trans b2))
 have HZ1 := Ho.mk n2
 go_wp2
 exact I0.gives_endI (fn := Tryz.f213) (i := ((a.1 + b.1), (a.2 + b.2))) rfl rfl BZ.out (by omega) KRz.out (HZ0.out.mono (by omega) (by omega)) (HZ1.out.mono (by omega) (by omega))
theorem shiftD_zero (v : Int) : shiftD v 0 = v := by unfold shiftD; rw [Int.add_zero]; exact sc_self v
theorem dShift0 {w : World} {A : Option Addr} {c : Nat} {u : Int} {L U : Nat} (T : Tab w) (h : Dv w A c u L U) (h1 : L + U ≤ 20000) :
  Calls Tryz.prog 174 #[.agg #[.bool (dneg u), .slice A (digs (dm u)).length c, .int .i64 (de u)], .int .i64 0] w (MakesD w u L U) := by
 have := F1.dShift T h 0 0 h1 (by omega) (by omega) (by omega)
 rwa [shiftD_zero] at this
theorem dPoint {A0 : Option Addr} {c0 : Nat} {v : Int} {L0 U0 : Nat} (w : World) (T : Tab w) (p0 : Dv w A0 c0 v L0 U0) (hL0 : L0 ≤ 3000) (hU0 : U0 ≤ 3000) :
  Calls Tryz.prog 208 #[.agg #[.bool (dneg v), .slice A0 (digs (dm v)).length c0, .int .i64 (de v)]] w (MakesI w (v, v) L0 U0) := by
 have TT := Ho.mk T
 clear T
 go_enter Tryz.func208, Tryz.ntmps208
 go_wp2_with fail
 have KB1 := Ho.mk (Blk.new w [.bool (dneg v), .slice A0 (digs (dm v)).length c0, .int .i64 (de v)] 37)
 have g0 := (Bel.refl w).alloc (.cells #[.bool (dneg v), .slice A0 (digs (dm v)).length c0, .int .i64 (de v)] 37)
 have hS : (w.alloc (.cells #[.bool (dneg v), .slice A0 (digs (dm v)).length c0, .int .i64 (de v)] 37)).heap.size = w.heap.size + 1 := by simp only [World.size_alloc]
 have hZ : (w.alloc (.cells #[.bool (dneg v), .slice A0 (digs (dm v)).length c0, .int .i64 (de v)] 37)) = (w.alloc (.cells #[.bool (dneg v), .slice A0 (digs (dm v)).length c0, .int .i64 (de v)] 37)) := rfl
 generalize (w.alloc (.cells #[.bool (dneg v), .slice A0 (digs (dm v)).length c0, .int .i64 (de v)] 37)) = w0 at *
 clear hZ
 have KR := Ho.mk (Blk.new w0 [.bool false, .slice none 0 0, .int .i64 0, .bool false, .slice none 0 0, .int .i64 0] 42)
 rw [hS] at KR
 have KB1_r1 := Ho.mk (KB1.out)
 obtain ⟨yB1_r1_0, yB1_r1_1, yB1_r1_2⟩ := KB1_r1.out.c3
 refine wp_region_held_drew (S := fun w' => Bel w0 w') (by kernel_rfl) ((Bel.refl _).alloc (.cells #[.bool false, .slice none 0 0, .int .i64 0, .bool false, .slice none 0 0, .int .i64 0] 42)).drew (fun hHeld => ?_)
 (try dsimp only at hHeld)
 refine rl (i := 0) (v := ?_) hHeld (fun w hSw => ?_) ?_
 rotate_left
 ·(have z0 := hSw.cell yB1_r1_0; have z1 := hSw.cell yB1_r1_1; have z2 := hSw.cell yB1_r1_2; go_simp; try (with_reducible rfl))
 refine rl (i := 2) (v := ?_) hHeld (fun w hSw => ?_) ?_
 rotate_left
 ·(have z0 := hSw.cell yB1_r1_0; have z1 := hSw.cell yB1_r1_1; have z2 := hSw.cell yB1_r1_2; go_simp; try (with_reducible rfl))
 try simp only [Act.put, Ow.zS, Ow.zC, Ow.zD]
 refine rc (i := 1) (fun K hK => ?_)
 go_simp
 go_at_call 174
 (with_reducible refine (dShift0 (TT.out.bel (g0.trans (((Bel.refl _).alloc (.cells #[.bool false, .slice none 0 0, .int .i64 0, .bool false, .slice none 0 0, .int .i64 0] 42)).drew))) ((p0.bel g0).bel (((Bel.refl _).alloc (.cells #[.bool false, .slice none 0 0, .int .i64 0, .bool false, .slice none 0 0, .int .i64 0] 42)).drew)) (by omega)).mono ?_); rintro e w1 ⟨A1, c1, rfl, n1, b1⟩
 try go_wp2_with fail
 refine hK.out _ _ (Bel.trans hHeld b1) (fun hHeld => ?_)
 clear hK K
 try simp only [Act.put, Ow.zS, Ow.zC, Ow.zD]
 refine rc (i := 3) (fun K hK => ?_)
 go_simp
 go_at_call 174
 (with_reducible refine (dShift0 (TT.out.bel (g0.trans ((((Bel.refl _).alloc (.cells #[.bool false, .slice none 0 0, .int .i64 0, .bool false, .slice none 0 0, .int .i64 0] 42)).drew).trans b1))) ((p0.bel g0).bel ((((Bel.refl _).alloc (.cells #[.bool false, .slice none 0 0, .int .i64 0, .bool false, .slice none 0 0, .int .i64 0] 42)).drew).trans b1)) (by omega)).mono ?_); rintro e w2 ⟨A2, c2, rfl, n2, b2⟩
 try go_wp2_with fail
 refine hK.out _ _ (Bel.trans hHeld b2) (fun hHeld => ?_)
 clear hK K
 refine rt (i := 4) hHeld ?_
 try simp only [Act.put, Ow.zS, Ow.zC, Ow.zD]
 refine rc (i := 5) (fun K hK => ?_)
 have KRz := Ho.mk ((KR.out.bel ((((Bel.refl _).drew).trans b1).trans b2)))
 have yr0 := KRz.out.cell (i := 0) rfl
 have zr0 := KRz.out.free 0
 have yr1 := KRz.out.cell (i := 1) rfl
 have zr1 := KRz.out.free 1
 have yr2 := KRz.out.cell (i := 2) rfl
 have zr2 := KRz.out.free 2
 have yr3 := KRz.out.cell (i := 3) rfl
 have zr3 := KRz.out.free 3
 have yr4 := KRz.out.cell (i := 4) rfl
 have zr4 := KRz.out.free 4
 have yr5 := KRz.out.cell (i := 5) rfl
 have zr5 := KRz.out.free 5
 go_simp
 refine hK.out _ _ (I0.bel_set6 hHeld (Nat.le_of_eq hS) _ _ _ _ _ _) (fun hHeld => ?_)
 clear hK K
 try simp only [Act.put, Ow.zS, Ow.zC, Ow.zD]
 refine wpAnyH_done (by kernel_rfl) ?_ _
 have BZ := Ho.mk (g0.trans (((((Bel.refl _).alloc (.cells #[.bool false, .slice none 0 0, .int .i64 0, .bool false, .slice none 0 0, .int .i64 0] 42)).drew).trans b1).trans b2))
 have HZ0 := Ho.mk (n1.bel ((Bel.refl _).trans b2))
 have HZ1 := Ho.mk n2
 go_wp2
 exact I0.gives_endI (fn := Tryz.f208) (i := (v, v)) rfl rfl BZ.out (by omega) KRz.out (HZ0.out.mono (by omega) (by omega)) (HZ1.out.mono (by omega) (by omega))
theorem dWide {A0 B0 : Option Addr} {c0 d0 : Nat} {a : Iv} {L0 U0 : Nat} (w : World) (T : Tab w) (p0l : Dv w A0 c0 a.1 L0 U0) (p0h : Dv w B0 d0 a.2 L0 U0) (hL0 : L0 ≤ 3000) (hU0 : U0 ≤ 3000) :
  Calls Tryz.prog 175 #[.agg #[.bool (dneg a.1), .slice A0 (digs (dm a.1)).length c0, .int .i64 (de a.1), .bool (dneg a.2), .slice B0 (digs (dm a.2)).length d0, .int .i64 (de a.2)]] w (MakesD w (a.2 + -a.1) (L0 + L0) (U0 + U0 + 1)) := by
 have TT := Ho.mk T
 clear T
 go_enter Tryz.func175, Tryz.ntmps175
 go_wp2_with fail
 have KB1 := Ho.mk (Blk.new w [.bool (dneg a.1), .slice A0 (digs (dm a.1)).length c0, .int .i64 (de a.1), .bool (dneg a.2), .slice B0 (digs (dm a.2)).length d0, .int .i64 (de a.2)] 42)
 have g0 := (Bel.refl w).alloc (.cells #[.bool (dneg a.1), .slice A0 (digs (dm a.1)).length c0, .int .i64 (de a.1), .bool (dneg a.2), .slice B0 (digs (dm a.2)).length d0, .int .i64 (de a.2)] 42)
 have hS : (w.alloc (.cells #[.bool (dneg a.1), .slice A0 (digs (dm a.1)).length c0, .int .i64 (de a.1), .bool (dneg a.2), .slice B0 (digs (dm a.2)).length d0, .int .i64 (de a.2)] 42)).heap.size = w.heap.size + 1 := by simp only [World.size_alloc]
 have hZ : (w.alloc (.cells #[.bool (dneg a.1), .slice A0 (digs (dm a.1)).length c0, .int .i64 (de a.1), .bool (dneg a.2), .slice B0 (digs (dm a.2)).length d0, .int .i64 (de a.2)] 42)) = (w.alloc (.cells #[.bool (dneg a.1), .slice A0 (digs (dm a.1)).length c0, .int .i64 (de a.1), .bool (dneg a.2), .slice B0 (digs (dm a.2)).length d0, .int .i64 (de a.2)] 42)) := rfl
 generalize (w.alloc (.cells #[.bool (dneg a.1), .slice A0 (digs (dm a.1)).length c0, .int .i64 (de a.1), .bool (dneg a.2), .slice B0 (digs (dm a.2)).length d0, .int .i64 (de a.2)] 42)) = w0 at *
 clear hZ
 have KR := Ho.mk (Blk.new w0 [.bool false, .slice none 0 0, .int .i64 0] 37)
 rw [hS] at KR
 have KB1_r1 := Ho.mk (KB1.out)
 obtain ⟨yB1_r1_0, yB1_r1_1, yB1_r1_2, yB1_r1_3, yB1_r1_4, yB1_r1_5⟩ := KB1_r1.out.c6
 refine wp_region_held_drew (S := fun w' => Bel w0 w') (by kernel_rfl) ((Bel.refl _).alloc (.cells #[.bool false, .slice none 0 0, .int .i64 0] 37)).drew (fun hHeld => ?_)
 (try dsimp only at hHeld)
 refine rt (i := 0) hHeld ?_
 refine rl (i := 1) (v := ?_) hHeld (fun w hSw => ?_) ?_
 rotate_left
 ·(have z3 := hSw.cell yB1_r1_3; have z4 := hSw.cell yB1_r1_4; have z5 := hSw.cell yB1_r1_5; go_simp; try (with_reducible rfl))
 refine rt (i := 2) hHeld ?_
 refine rl (i := 3) (v := ?_) hHeld (fun w hSw => ?_) ?_
 rotate_left
 ·(have z0 := hSw.cell yB1_r1_0; have z1 := hSw.cell yB1_r1_1; have z2 := hSw.cell yB1_r1_2; go_simp; try (with_reducible rfl))
 try simp only [Act.put, Ow.zS, Ow.zC, Ow.zD]
 refine rc (i := 4) (fun K hK => ?_)
 go_simp
 go_at_call 173
 (with_reducible refine (F1.dFlip (TT.out.bel (g0.trans (((Bel.refl _).alloc (.cells #[.bool false, .slice none 0 0, .int .i64 0] 37)).drew))) ((p0l.bel g0).bel (((Bel.refl _).alloc (.cells #[.bool false, .slice none 0 0, .int .i64 0] 37)).drew)) (by omega)).mono ?_); rintro e w1 ⟨A1, c1, rfl, n1, b1⟩
 try go_wp2_with fail
 refine hK.out _ _ (Bel.trans hHeld b1) (fun hHeld => ?_)
 clear hK K
 try simp only [Act.put, Ow.zS, Ow.zC, Ow.zD]
 refine rc (i := 5) (fun K hK => ?_)
 go_simp
 go_at_call 194
 (with_reducible refine (F1.dAdd (TT.out.bel (g0.trans ((((Bel.refl _).alloc (.cells #[.bool false, .slice none 0 0, .int .i64 0] 37)).drew).trans b1))) ((p0h.bel g0).bel ((((Bel.refl _).alloc (.cells #[.bool false, .slice none 0 0, .int .i64 0] 37)).drew).trans b1)) n1 (by omega) (by omega)).mono ?_); rintro e w2 ⟨A2, c2, rfl, n2, b2⟩
 try go_wp2_with fail
 refine hK.out _ _ (Bel.trans hHeld b2) (fun hHeld => ?_)
 clear hK K
 try simp only [Act.put, Ow.zS, Ow.zC, Ow.zD]
 refine rc (i := 6) (fun K hK => ?_)
 have KRz := Ho.mk ((KR.out.bel ((((Bel.refl _).drew).trans b1).trans b2)))
 have yr0 := KRz.out.cell (i := 0) rfl
 have zr0 := KRz.out.free 0
 have yr1 := KRz.out.cell (i := 1) rfl
 have zr1 := KRz.out.free 1
 have yr2 := KRz.out.cell (i := 2) rfl
 have zr2 := KRz.out.free 2
 go_simp
 refine hK.out _ _ (I0.bel_set3 hHeld (Nat.le_of_eq hS) _ _ _) (fun hHeld => ?_)
 clear hK K
 try simp only [Act.put, Ow.zS, Ow.zC, Ow.zD]
 refine wpAnyH_done (by kernel_rfl) ?_ _
 have BZ := Ho.mk (g0.trans (((((Bel.refl _).alloc (.cells #[.bool false, .slice none 0 0, .int .i64 0] 37)).drew).trans b1).trans b2))
 have HZ0 := Ho.mk n2
 go_wp2
 exact I0.gives_endD (fn := Tryz.f175) rfl rfl BZ.out (by omega) KRz.out (HZ0.out.mono (by omega) (by omega))
end I1
namespace Nb
open Go.RowKit Go.Proofs.YtalbgklfhabnkaaGreatDoor Ow Pl N1 N2 N3 Na
theorem up_calls (b n by_ : Nat) (l : List Int) (bi inn : Int) (w : World) (h : Blk w b 3 (ints l)) (hn : l.length = n) (hn5 : n ≤ 100000) (hl : Lims l) (hbi : bi = (by_ : Int)) (hby24 : by_ < 24) (hi0 : 0 ≤ inn) (hi1 : inn < 16777216) :
  Calls Tryz.prog 230 #[.slice (some ⟨b, 0, none⟩) n n, .int .i64 bi, .int .i64 inn] w
   fun e w' => e = .returned (.tuple #[]) ∧ Blk w' b 3 (ints (limbs n inn (fun j => nth l j * ((2 ^ by_ : Nat) : Int)))) ∧ Gr b w w' := by
 subst hbi
 obtain ⟨p, hp⟩ : ∃ p : Int, p = ((2 ^ by_ : Nat) : Int) := ⟨_, rfl⟩
 rw [← hp]
 have HPP := Ho.mk hp
 have H := Ho.mk h
 have HL := Ho.mk hl
 have HN := Ho.mk hn
 have hblt := h.lt
 obtain ⟨bc, hbc⟩ : ∃ bc, bc = w.heap.size := ⟨_, rfl⟩
 have HBC := Ho.mk hbc
 have hne : b ≠ bc := by omega
 have hne' : bc ≠ b := by omega
 clear h hl hn hp hbc
 go_enter Tryz.func230, Tryz.ntmps230
 go_wp2
 rw [← HBC.out]
 go_loopw [11] (fun v wr => ∃ (i : Nat) (c : Int) (d : List Int), i ≤ n ∧ v = .int .i64 i ∧ 0 ≤ c ∧ c < 16777216 ∧ Ho (Blk wr b 3 (ints (d ++ l.drop i))) ∧ Ho (Blk wr bc 246 [.int .i64 c]) ∧ Ho (Gr b w wr) ∧ Ho (d.length = i) ∧
   Ho (d ++ limbs (n - i) c (fun j => nth l (i + j) * p) = limbs n inn (fun j => nth l j * p))) (fun v _ => n - (intOf v).toNat)
 case atStart =>
  exact ⟨0, inn, [], Nat.zero_le _, rfl, hi0, hi1, ⟨(by simpa using H.out.old _)⟩, ⟨by rw [HBC.out]; exact Blk.new w [.int .i64 inn] _⟩, ⟨(Gr.refl b w).alloc _⟩, ⟨rfl⟩, ⟨by simp⟩⟩
 case round =>
  obtain ⟨i, c, d, hi, rfl, hc0, hc1, KO, KC, HG, HD, HE⟩ := hrel
  rcases Nat.lt_or_ge i n with hlt | hge
  ·have hlen : i < (d ++ l.drop i).length := by rw [List.length_append, List.length_drop, HD.out, HN.out]; omega
   have y0 := KO.out.cell (owInts_at _ hlen)
   have e1 := nth_mid [] d l i (by rw [HN.out]; exact hlt) HD.out
   simp only [List.nil_append, List.length_nil, Nat.zero_add] at e1
   rw [e1] at y0
   have y1 := KO.out.free i
   obtain ⟨g0, g1⟩ := HL.out.nth i
   clear hlen e1
   have hw : Ho (wrap64 (nth l i * 2 ^ by_) = nth l i * p ∧ 0 ≤ nth l i * p ∧ nth l i * p ≤ 140737479966720) := ⟨by rw [HPP.out]; exact shl_wrap g0 g1 hby24⟩
   go_wp2_with (go_at_call 186; rw [hw.out.1]; (with_reducible refine (put_calls bc c _ _ KC.out (by have := hw.out.2; omega) (by have := hw.out.2; omega) (by omega) (by omega)).mono ?_); rintro e w' ⟨rfl, rfl⟩)
   go_roundw
   case rel =>
    obtain ⟨p0, p1⟩ := hw.out.2
    have hd := limbs_step (fun j => nth l j * p) i n c d hlt
    have hk := (KO.out.far (p := ⟨bc, 0, none⟩) hne (.int .i64 ((nth l i * p + c) / 16777216))).set i (.int .i64 ((nth l i * p + c) % 16777216))
    have e2 := set_mid [] d l i ((nth l i * p + c) % 16777216) (by rw [HN.out]; exact hlt) HD.out
    simp only [List.nil_append, List.length_nil, Nat.zero_add] at e2
    rw [ints_set, e2] at hk
    refine ⟨i + 1, _, _, by omega, by simp, ?_, ?_, ⟨hk⟩, ⟨(KC.out.set 0 _).far hne' _⟩, ⟨(HG.out.setNew (by have := HBC.out; simp; omega) _).set i _⟩, ⟨by simp [HD.out]⟩, ⟨by rw [hd]; exact HE.out⟩⟩
    all_goals
     generalize nth l i * p = z at p0 p1 ⊢
     omega
   case measure => simp [intOf]; omega
  ·obtain rfl : i = n := by omega
   have hd := HE.out
   rw [Nat.sub_self, limbs, List.append_nil] at hd
   have hk := KO.out
   rw [List.drop_eq_nil_of_le (by rw [HN.out]; exact Nat.le_refl _), List.append_nil, hd] at hk
   have HK := Ho.mk hk
   clear hd hk
   go_wp2
   go_end0
   exact ⟨rfl, HK.out, HG.out⟩
theorem reverse_calls (B g cap n : Nat) (l : List Int) (w : World) (h : OwnI w B 3 1 (.slice (some ⟨g, 0, none⟩) n cap) n (ints l)) (hn : l.length = n) (hn5 : n ≤ 100000) :
  Calls Tryz.prog 234 #[.slice (some ⟨g, 0, none⟩) n cap] w fun e w' => e = .returned (.tuple #[]) ∧ OwnI w' B 3 1 (.slice (some ⟨g, 0, none⟩) n cap) n (ints l.reverse) ∧ Gr g w w' := by
 subst hn
 have H := Ho.mk h
 clear h
 go_enter Tryz.func234, Tryz.ntmps234
 go_wp2
 go_loopw [2, 3] (fun v2 v3 wr => ∃ (i : Nat) (j : Int) (cur : List Int), i ≤ l.length ∧ v2 = .int .i64 i ∧ v3 = .int .i64 j ∧ j + i + 1 = l.length ∧ Ho (Turned l cur i) ∧ Ho (OwnI wr B 3 1 (.slice (some ⟨g, 0, none⟩) l.length cap) l.length (ints cur)) ∧ Ho (Gr g w wr)) (fun v2 _ _ => l.length - (intOf v2).toNat)
 case atStart => exact ⟨0, l.length - 1, l, Nat.zero_le _, rfl, rfl, by omega, ⟨turned_zero l⟩, H, ⟨Gr.refl _ _⟩⟩
 case round =>
  obtain ⟨i, j, cur, hi, rfl, rfl, hj, HT, HO, HG⟩ := hrel
  rcases Nat.lt_or_ge (i + i + 1) l.length with hlt | hge
  ·obtain ⟨m, rfl⟩ := Int.eq_ofNat_of_zero_le (show 0 ≤ j by omega)
   have hcl := HT.out.1
   have a0 := HO.out.cell (owInts_at cur (i := i) (by omega))
   have a1 := HO.out.cell (owInts_at cur (i := m) (by omega))
   have a2 := HO.out.free i
   have a3 := HO.out.free m
   have hne : ¬ i = m := by omega
   have hne' : ¬ m = i := by omega
   have q0 : (i : Int) < l.length := by omega
   have q1 : (m : Int) < l.length := by omega
   have hlt' : (i : Int) < m := by omega
   have hmi : m = l.length - 1 - i := by omega
   have HMI := Ho.mk hmi
   have HJ := Ho.mk hj
   obtain ⟨x, hx⟩ : ∃ x, x = nth cur i := ⟨_, rfl⟩
   obtain ⟨y, hy⟩ : ∃ y, y = nth cur m := ⟨_, rfl⟩
   rw [← hx] at a0
   rw [← hy] at a1
   have HX := Ho.mk hx
   have HY := Ho.mk hy
   clear hcl hmi hj hx hy
   go_wp2
   go_region
   go_wp2
   go_roundw
   case rel =>
    have hcl := HT.out.1
    have hmi := HMI.out
    have ho := ((HO.out.set i (.int .i64 y)).set m (.int .i64 x)).drew
    rw [ints_set, ints_set, HX.out, HY.out, hmi] at ho
    refine ⟨i + 1, (m : Int) - 1, _, by omega, by simp, rfl, by have := HJ.out; omega, ⟨turned_step HT.out hlt⟩, ⟨?_⟩, ⟨((HG.out.set i _).set m _).drew⟩⟩
    rw [HX.out, HY.out, hmi]; exact ho
   case measure => simp [intOf]; omega
  ·have hlt' : ¬ (i : Int) < j := by omega
   have e := Ho.mk (turned_done HT.out hge)
   go_wp2
   go_end0
   exact ⟨rfl, by rw [← e.out]; exact HO.out, HG.out⟩
theorem reversed_calls (ad : Addr) (n c : Nat) (l : List Int) (w : World) (h : Rd w (some ad) l) (hn : l.length = n) (h0 : 0 < n) (hn5 : n ≤ 100000) :
  Calls Tryz.prog 233 #[.slice (some ad) n c] w fun e w' => ∃ A c, e = .returned (.slice A n c) ∧ Rd w' A l.reverse ∧ Bel w w' := by
 have HN := Ho.mk hn
 clear hn
 go_enter Tryz.func233, Tryz.ntmps233
 go_wp2_with fail
 (with_reducible refine (clone_calls ad _ _ l _ h (by have := HN.out; omega) HN.out).mono ?_); rintro e w1 ⟨v, rfl, hv, hb1⟩
 obtain ⟨g, cap, rfl, hcap, hgB, hgl⟩ := hv.form h0
 go_wp2_with fail
 (with_reducible refine (reverse_calls _ g cap n l _ hv HN.out hn5).mono ?_); rintro e w2 ⟨rfl, hv2, hg2⟩
 go_wp2
 go_ret
 exact ⟨_, _, rfl, hv2.rdAt (by rw [List.length_reverse]; exact HN.out) (by omega), hg2.bel hb1 hgB⟩
theorem compareRev_calls (A0 A1 : Option Addr) (c0 c1 n : Nat) (l0 l1 : List Int) (w : World) (h0 : Rd w A0 l0.reverse) (h1 : Rd w A1 l1.reverse) (e0 : l0.length = n) (e1 : l1.length = n) :
  Calls Tryz.prog 232 #[.slice A0 n c0, .slice A1 n c1] w fun e w' => e = .returned (.int .i64 (cmpTop l0 l1 n)) ∧ w = w' := by
 have m0 := h0.max
 rw [List.length_reverse, e0] at m0
 have E0 := Ho.mk e0
 have E1 := Ho.mk e1
 have H0 := Ho.mk h0
 have H1 := Ho.mk h1
 clear e0 e1 h0 h1
 go_enter Tryz.func232, Tryz.ntmps232
 go_wp2
 go_loop [11] (fun v => ∃ i : Nat, i ≤ n ∧ v = .int .i64 i ∧ Ho (cmpTop l0 l1 (n - i) = cmpTop l0 l1 n)) (fun v => n - (intOf v).toNat)
 case atStart => exact ⟨0, Nat.zero_le _, rfl, ⟨by rw [Nat.sub_zero]⟩⟩
 case round =>
  obtain ⟨i, hi, rfl, ht⟩ := hrel
  rcases Nat.lt_or_ge i n with hlt | hge
  ·obtain ⟨a0, rfl, x0⟩ := H0.out.cell i (by rw [List.length_reverse, E0.out]; exact hlt)
   obtain ⟨a1, rfl, x1⟩ := H1.out.cell i (by rw [List.length_reverse, E1.out]; exact hlt)
   rw [nth_rev (by rw [E0.out]; exact hlt), E0.out] at x0
   rw [nth_rev (by rw [E1.out]; exact hlt), E1.out] at x1
   obtain ⟨m, hm⟩ : ∃ m, n - i = m + 1 := ⟨n - i - 1, by omega⟩
   have hm2 : n - 1 - i = m := by omega
   rw [hm2] at x0 x1
   have ht2 := ht.out
   rw [hm] at ht2
   have hm3 : n - (i + 1) = m := by omega
   have HM3 := Ho.mk hm3
   by_cases hq : nth l0 m = nth l1 m
   ·have ht' : Ho (cmpTop l0 l1 (n - (i + 1)) = cmpTop l0 l1 n) := ⟨by rw [hm3, ← ht2]; simp only [cmpTop]; rw [if_pos hq]⟩
    have hc : Ho (cmpI (nth l0 m) (nth l1 m) = 0) := ⟨cmpI_eq hq⟩
    clear hm hm2 hm3 ht2 hq ht
    go_wp2_with (go_at_call 191; (with_reducible refine (N5.compare_calls _ _ _).mono ?_); rintro e w' ⟨rfl, rfl⟩; rw [hc.out])
    go_round
    case rel => exact ⟨i + 1, by omega, by go_num, ht'⟩
    case measure => simp [intOf]; omega
   ·have ht' : Ho (cmpI (nth l0 m) (nth l1 m) = cmpTop l0 l1 n) := ⟨by rw [← ht2]; simp only [cmpTop]; rw [if_neg hq]⟩
    have hb : (cmpI (nth l0 m) (nth l1 m) != 0) = true := by
     rw [bne_iff_ne]
     rcases Int.lt_or_gt_of_ne hq with h | h
     ·rw [cmpI_lt h]; decide
     ·rw [cmpI_gt h]; decide
    clear hm hm2 hm3 ht2 hq ht
    go_wp2_with (go_at_call 191; (with_reducible refine (N5.compare_calls _ _ _).mono ?_); rintro e w' ⟨rfl, rfl⟩)
    go_ret
    exact ⟨by rw [← ht'.out]; rfl, rfl⟩
  ·obtain rfl : i = n := by omega
   have e := ht.out
   rw [Nat.sub_self] at e
   have EE := Ho.mk e
   clear e ht
   go_wp2
   go_ret
   exact ⟨by rw [← EE.out]; rfl, rfl⟩
theorem takeNo_calls (b0 b1 n : Nat) (l0 l1 : List Int) (w : World) (h0 : Blk w b0 3 (ints l0)) (h1 : Blk w b1 3 (ints l1)) (e0 : l0.length = n) (e1 : l1.length = n) (hn0 : 0 < n) (hn5 : n ≤ 100000) (hlt : cmpTop l0 l1 n < 0) :
  Calls Tryz.prog 231 #[.slice (some ⟨b0, 0, none⟩) n n, .slice (some ⟨b1, 0, none⟩) n n] w fun e w' => e = .returned (.bool false) ∧ Bel w w' := by
 have R0 := h0.rd (by omega)
 have R1 := h1.rd (by omega)
 go_enter Tryz.func231, Tryz.ntmps231
 go_wp2_with fail
 (with_reducible refine (reversed_calls _ _ _ l0 _ R0 e0 hn0 hn5).mono ?_); rintro e w1 ⟨A0, c0, rfl, hr0, hb1⟩
 go_wp2_with fail
 (with_reducible refine (reversed_calls _ _ _ l1 _ (R1.bel hb1) e1 hn0 hn5).mono ?_); rintro e w2 ⟨A1, c1, rfl, hr1, hb2⟩
 go_wp2_with fail
 (with_reducible refine (compareRev_calls _ _ _ _ n l0 l1 _ (hr0.bel hb2) hr1 e0 e1).mono ?_); rintro e w3 ⟨rfl, rfl⟩
 go_wp2
 go_ret
 exact ⟨rfl, hb1.trans hb2⟩
theorem takeYes_calls (b0 b1 n : Nat) (l0 l1 : List Int) (w : World) (h0 : Blk w b0 3 (ints l0)) (h1 : Blk w b1 3 (ints l1)) (e0 : l0.length = n) (e1 : l1.length = n) (hn0 : 0 < n) (hn5 : n ≤ 100000) (hlt : 0 ≤ cmpTop l0 l1 n)
  (hb : b0 ≠ b1) (hl0 : Lims l0) (hl1 : Lims l1) :
  Calls Tryz.prog 231 #[.slice (some ⟨b0, 0, none⟩) n n, .slice (some ⟨b1, 0, none⟩) n n] w
   fun e w' => e = .returned (.bool true) ∧ Blk w' b0 3 (ints (limbs n 0 (fun j => nth l0 j - nth l1 j))) ∧ Gr b0 w w' := by
 have R0 := h0.rd (by omega)
 have R1 := h1.rd (by omega)
 have HL0 := Ho.mk hl0
 have HL1 := Ho.mk hl1
 have E0 := Ho.mk e0
 have E1 := Ho.mk e1
 clear hl0 hl1 e0 e1
 go_enter Tryz.func231, Tryz.ntmps231
 go_wp2_with fail
 (with_reducible refine (reversed_calls _ _ _ l0 _ R0 E0.out hn0 hn5).mono ?_); rintro e w1 ⟨A0, c0, rfl, hr0, hb1⟩
 go_wp2_with fail
 (with_reducible refine (reversed_calls _ _ _ l1 _ (R1.bel hb1) E1.out hn0 hn5).mono ?_); rintro e w2 ⟨A1, c1, rfl, hr1, hb2⟩
 go_wp2_with fail
 (with_reducible refine (compareRev_calls _ _ _ _ n l0 l1 _ (hr0.bel hb2) hr1 E0.out E1.out).mono ?_); rintro e w3 ⟨rfl, rfl⟩
 have K0 := Ho.mk (h0.bel (hb1.trans hb2))
 have K1 := Ho.mk (h1.bel (hb1.trans hb2))
 have G2 := Ho.mk ((hb1.trans hb2).gr b0)
 have hbl0 := K0.out.lt
 have hbl1 := K1.out.lt
 have hw2 := (hb1.trans hb2).size
 clear R0 R1 hr0 hr1 hb1 hb2 h0 h1
 go_wp2_with fail
 obtain ⟨bc, hbc⟩ : ∃ bc, bc = w2.heap.size := ⟨_, rfl⟩
 have HBC := Ho.mk hbc
 rw [← HBC.out]
 have hne : b0 ≠ bc := by omega
 have hne1 : b1 ≠ bc := by omega
 have hne' : bc ≠ b0 := by omega
 clear hbc
 go_loopw [15] (fun v wr => ∃ (i : Nat) (c : Int) (d : List Int), i ≤ n ∧ v = .int .i64 i ∧ -1 ≤ c ∧ c ≤ 0 ∧ Ho (Blk wr b0 3 (ints (d ++ l0.drop i))) ∧ Ho (Blk wr b1 3 (ints l1)) ∧ Ho (Blk wr bc 246 [.int .i64 c]) ∧ Ho (Gr b0 w wr) ∧ Ho (d.length = i) ∧
   Ho (d ++ limbs (n - i) c (fun j => nth l0 (i + j) - nth l1 (i + j)) = limbs n 0 (fun j => nth l0 j - nth l1 j))) (fun v _ => n - (intOf v).toNat)
 case atStart =>
  exact ⟨0, 0, [], Nat.zero_le _, rfl, by omega, by omega, ⟨(by simpa using K0.out.old _)⟩, ⟨K1.out.old _⟩, ⟨by rw [HBC.out]; exact Blk.new w2 [.int .i64 0] _⟩, ⟨G2.out.alloc _⟩, ⟨rfl⟩, ⟨by simp⟩⟩
 case round =>
  obtain ⟨i, c, d, hi, rfl, hc0, hc1, KO, KB, KC, HG, HD, HE⟩ := hrel
  rcases Nat.lt_or_ge i n with hlt2 | hge
  ·have hlen : i < (d ++ l0.drop i).length := by rw [List.length_append, List.length_drop, HD.out, E0.out]; omega
   have y0 := KO.out.cell (owInts_at _ hlen)
   have e1 := nth_mid [] d l0 i (by rw [E0.out]; exact hlt2) HD.out
   simp only [List.nil_append, List.length_nil, Nat.zero_add] at e1
   rw [e1] at y0
   have y1 := KO.out.free i
   have y2 := KB.out.cell (owInts_at l1 (i := i) (by rw [E1.out]; exact hlt2))
   obtain ⟨g0, g1⟩ := HL0.out.nth i
   obtain ⟨f0, f1⟩ := HL1.out.nth i
   have hin : (i : Int) < n := by omega
   clear hlen e1
   have hwr : IntKind.i64.wrap (nth l0 i - nth l1 i) = nth l0 i - nth l1 i := IntWalk.i64_in _ (by omega)
   go_wp2
   go_region_with ((go_at_call 186; refine (put_calls bc c _ _ (KC.out.drew) (by omega) (by omega) (by omega) (by omega)).mono ?_; rintro e w' ⟨rfl, rfl⟩))
   all_goals
    go_wp2
    go_roundw
    case rel =>
     have hd := limbs_step (fun j => nth l0 j - nth l1 j) i n c d hlt2
     have hk := ((KO.out.drew.far (p := ⟨bc, 0, none⟩) hne (.int .i64 ((nth l0 i - nth l1 i + c) / 16777216))).set i (.int .i64 ((nth l0 i - nth l1 i + c) % 16777216)))
     have e2 := set_mid [] d l0 i ((nth l0 i - nth l1 i + c) % 16777216) (by rw [E0.out]; exact hlt2) HD.out
     simp only [List.nil_append, List.length_nil, Nat.zero_add] at e2
     rw [ints_set, e2] at hk
     refine ⟨i + 1, (nth l0 i - nth l1 i + c) / 16777216, d ++ [(nth l0 i - nth l1 i + c) % 16777216], by omega, by simp, by omega, by omega, ⟨hk⟩, ⟨(KB.out.drew.far hne1 _).far (fun e => hb e.symm) _⟩, ⟨(KC.out.drew.set 0 _).far hne' _⟩, ⟨(HG.out.drew.setNew (by have := HBC.out; simp; omega) _).set i _⟩, ⟨by simp [HD.out]⟩, ⟨by rw [hd]; exact HE.out⟩⟩
    case measure => simp [intOf]; omega
  ·obtain rfl : i = n := by omega
   have hd := HE.out
   rw [Nat.sub_self, limbs, List.append_nil] at hd
   have hk := KO.out
   rw [List.drop_eq_nil_of_le (by rw [E0.out]; exact Nat.le_refl _), List.append_nil, hd] at hk
   have HK := Ho.mk hk
   clear hd hk
   go_wp2
   go_ret
   exact ⟨rfl, HK.out, HG.out⟩
end Nb
namespace Nc
open Go.RowKit Go.Proofs.YtalbgklfhabnkaaGreatDoor Ow Pl N1 N2 N3 Na Nb
structure Three (B m : Nat) (v4 v5 v6 : Value) (w wx : World) (b4 b5 b6 : Nat) : Prop where
 e4 : v4 = .slice (some ⟨b4, 0, none⟩) m m
 e5 : v5 = .slice (some ⟨b5, 0, none⟩) m m
 e6 : v6 = .slice (some ⟨b6, 0, none⟩) m m
 k4 : Blk wx b4 3 (ints (List.replicate m 0))
 k5 : Blk wx b5 3 (ints (List.replicate m 0))
 k6 : Blk wx b6 3 (ints (List.replicate m 0))
 ne : b4 ≠ b5 ∧ b4 ≠ b6 ∧ b5 ≠ b6 ∧ B ≤ b4 ∧ B ≤ b5 ∧ B ≤ b6
 bel : Bel w wx
theorem three_world (w : World) (m : Nat) (o : Obj) (ho : o = .cells (madeCells #[.int .i64 0] m) 3) : Blk (((w.alloc o).alloc o).alloc o).drew w.heap.size 3 (ints (List.replicate m 0)) ∧ Blk (((w.alloc o).alloc o).alloc o).drew (w.heap.size + 1) 3 (ints (List.replicate m 0)) ∧ Blk (((w.alloc o).alloc o).alloc o).drew (w.heap.size + 2) 3 (ints (List.replicate m 0)) := by
 have e : o = .cells (ints (List.replicate m 0)).toArray 3 := by
  rw [ho, ← ints_rep, ← toList_madeCells_one]
 rw [e]
 refine ⟨(((Blk.new w _ _).old _).old _).drew, ?_, ?_⟩
 ·have := ((Blk.new (w.alloc (.cells (ints (List.replicate m 0)).toArray 3)) (ints (List.replicate m 0)) 3).old (.cells (ints (List.replicate m 0)).toArray 3)).drew
  simpa using this
 ·have := (Blk.new ((w.alloc (.cells (ints (List.replicate m 0)).toArray 3)).alloc (.cells (ints (List.replicate m 0)).toArray 3)) (ints (List.replicate m 0)) 3).drew
  simpa using this
theorem root_calls (A : Option Addr) (c x : Nat) (w : World) (h : Rd w A (digs x)) (hc : (digs x).length ≤ c) (hx : (digs x).length ≤ 50000) :
  Calls Tryz.prog 225 #[.slice A (digs x).length c] w
   fun e w' => ∃ A c, e = .returned (.slice A (digs (rootN x)).length c) ∧ (digs (rootN x)).length ≤ c ∧ Rd w' A (digs (rootN x)) ∧ Bel w w' := by
 obtain ⟨m, hm⟩ : ∃ m, m = (digs x).length / 2 + 2 := ⟨_, rfl⟩
 have hmi : ((digs x).length : Int) / 2 + 2 = (m : Int) := by omega
 have hmk := fun W => run_make_row' (P := Tryz.prog) 35 3 (.int .i64 0) 8 Tryz.underlying35 info3 rfl .i64 .i64 m (by omega) (by omega) W
 have HM := Ho.mk hm
 clear hm
 go_enter Tryz.func225, Tryz.ntmps225
 go_upto_region 2 with fail
 go_cut [4, 5, 6] (fun v4 v5 v6 wx => ∃ b4 b5 b6, Three w.heap.size m v4 v5 v6 w wx b4 b5 b6)
 case first =>
  have T := Ho.mk (three_world w m _ rfl)
  go_region
  all_goals
   go_wp2_with fail
   go_meet
   exact ⟨_, _, _, rfl, rfl, rfl, by first | exact T.out.1 | exact T.out.2.1 | exact T.out.2.2, by first | exact T.out.1 | exact T.out.2.1 | exact T.out.2.2, by first | exact T.out.1 | exact T.out.2.1 | exact T.out.2.2, by omega, ((((Bel.refl w).alloc _).alloc _).alloc _).drew⟩
 case rest =>
  obtain ⟨b4, b5, b6, hT⟩ := hcut
  obtain ⟨rfl, rfl, rfl, k4, k5, k6, ⟨n45, n46, n56, B4, B5, B6⟩, hb⟩ := hT
  have K4 := Ho.mk k4
  have K5 := Ho.mk k5
  have K6 := Ho.mk k6
  have HB := Ho.mk hb
  have hbl := blen_le.2 (Nat.lt_of_lt_of_le (digs_lt x) (by rw [show (16777216 : Nat) = 2 ^ 24 from rfl, ← Nat.pow_mul]; exact Nat.le_refl _))
  have hW := hb.size
  clear k4 k5 k6 hb hmk
  go_wp2_with fail
  (with_reducible refine (N6.natLen_calls _ _ x _ (h.bel HB.out)).mono ?_); rintro e w1 ⟨rfl, rfl⟩
  have HX := Ho.mk (digs_lt x)
  have H := Ho.mk h
  have hxl := Ho.mk (show (digs x).length ≤ 2 * (m - 1) by rw [HM.out]; omega)
  have hm2 : 2 ≤ m := by rw [HM.out]; omega
  have hm5 : m ≤ 30000 := by rw [HM.out]; omega
  have hbl2 : blen x ≤ 1200000 := by omega
  clear h
  go_wp2_with fail
  go_loopw [7] (fun v7 wr => ∃ (u R D : Nat) (ll rl tl : List Int), u ≤ (blen x + 1) / 2 ∧ v7 = .int .i64 (2 * (u : Int) - 2) ∧ Ho (RootAt x m u R D) ∧ Ho (Blk wr b4 3 (ints ll)) ∧ Ho (Blk wr b5 3 (ints rl)) ∧ Ho (Blk wr b6 3 (ints tl)) ∧
    Ho (ll.length = m ∧ rl.length = m ∧ tl.length = m) ∧ Ho (Lims ll) ∧ Ho (Lims rl) ∧ Ho (val ll = D) ∧ Ho (val rl = R) ∧ Ho (Bel w wr)) (fun v7 _ => (intOf v7 + 2).toNat)
  case atStart =>
   exact ⟨(blen x + 1) / 2, 0, 0, _, _, _, Nat.le_refl _, by congr 1; omega, ⟨root_zero⟩, K4, K5, K6, ⟨by simp⟩, ⟨lims_rep _⟩, ⟨lims_rep _⟩, ⟨by rw [val_rep]; rfl⟩, ⟨by rw [val_rep]; rfl⟩, HB⟩
  case round =>
   obtain ⟨u, R, D, ll, rl, tl, hu, rfl, HR, KL, KR, KT, HLEN, HLL, HLR, HVL, HVR, HW⟩ := hrel
   rcases Nat.eq_zero_or_pos u with hz | hz
   ·subst hz
    have e := Ho.mk (root_end HR.out)
    have R' := KR.out.rd (by have := HLEN.out.2.1; omega)
    have HE : Ho (trimL rl = digs (rootN x)) := ⟨trim_digs HLR.out (by rw [e.out]; exact HVR.out)⟩
    go_wp2_with (go_at_call 187; rw [← HLEN.out.2.1]; (with_reducible refine (trim_calls _ _ _ _ R' (Nat.le_refl _)).mono ?_); rintro e w' ⟨rfl, rfl⟩)
    go_ret
    rw [← HE.out]
    exact ⟨_, _, rfl, by have := trimN_le rl rl.length; simp [trimL]; omega, R'.take _, HW.out⟩
   ·obtain ⟨u', rfl⟩ : ∃ u', u = u' + 1 := ⟨u - 1, by omega⟩
    obtain ⟨t, ht⟩ : ∃ t : Nat, t = 2 * u' := ⟨_, rfl⟩
    rw [show 2 * ((u' + 1 : Nat) : Int) - 2 = (t : Int) from by omega]
    obtain ⟨q, hq⟩ : ∃ q, q = t / 24 := ⟨_, rfl⟩
    obtain ⟨s, hs⟩ : ∃ s, s = t % 24 := ⟨_, rfl⟩
    have hq2 : (t : Int) / 24 = q := by omega
    have hs2 : (t : Int) % 24 = s := by omega
    obtain ⟨b, hb⟩ : ∃ b, b = x / 4 ^ u' % 4 := ⟨_, rfl⟩
    have hbits := Ho.mk (root_bits x u' q s (by rw [hq, ht]) (by rw [hs, ht]))
    have hb4 : b < 4 := by rw [hb]; omega
    have ht5 : t ≤ 1200002 := by omega
    rw [← hb] at hbits
    have HBB := Ho.mk hb
    have HT := Ho.mk ht
    have hql : q < (digs x).length := by omega
    obtain ⟨ad, rfl, x0⟩ := (H.out.bel HW.out).cell q hql
    have hqi : (q : Int) < (digs x).length := by omega
    have hs24 : s < 24 := by omega
    obtain ⟨g0, g1⟩ := (digs_can x).1.nth q
    clear hq hs hb ht hql
    go_wp2_with fail
    rw [hbits.out]
    clear hbits x0 hqi hs24 g0 g1 hq2 hs2
    obtain ⟨B1, B2, B3⟩ := root_bound HR.out hm2
    (with_reducible refine (up_calls b4 m 2 ll 2 _ _ KL.out HLEN.out.1 (by omega) HLL.out rfl (by decide) (by omega) (by omega)).mono ?_); rintro e w1 ⟨rfl, hk1, hg1⟩
    have hv1 := up_val (by_ := 2) (inn := (b : Int)) HLEN.out.1 HLL.out (by omega) (by rw [HVL.out]; have := nat_lt_int B1; omega)
    have hl1 := limbs_len m (b : Int) (fun j => nth ll j * ((2 ^ 2 : Nat) : Int))
    have hL1 := limbs_lims m (b : Int) (fun j => nth ll j * ((2 ^ 2 : Nat) : Int))
    rw [HVL.out] at hv1
    generalize limbs m (b : Int) (fun j => nth ll j * ((2 ^ 2 : Nat) : Int)) = l1 at *
    have KL1 := Ho.mk hk1
    have HV1 : Ho (val l1 = ((4 * D + b : Nat) : Int)) := ⟨by rw [hv1]; simp; omega⟩
    have HL1 := Ho.mk (And.intro hl1 hL1)
    have KR1 := Ho.mk (hg1.blk KR.out (fun e => n45 e.symm))
    have KT1 := Ho.mk (hg1.blk KT.out (fun e => n46 e.symm))
    have HW1 := Ho.mk (hg1.bel HW.out B4)
    clear hk1 hv1 hl1 hL1 hg1 KL KR KT HW HLL HVL
    go_wp2_with ((with_reducible refine wpList_cp _ rfl (.tmp 40) (.tmp 41) 35 rfl 3 Tryz.underlying35 size3 b6 0 (some ⟨b5, 0, none⟩) m m m m rl HLEN.out.2.1 rfl rfl (ints tl) KT1.out (KR1.out.rd (by rw [HLEN.out.2.1]; omega)) (Nat.le_refl _) (by rw [ints_len, HLEN.out.2.2, Nat.zero_add]; exact Nat.le_refl _) ?_); intro w2 hk2 hb2')
    have e2 : (ints tl).take 0 ++ (ints rl ++ (ints tl).drop (0 + m)) = ints rl := by
     rw [List.take_zero, List.nil_append, List.drop_eq_nil_of_le (by rw [ints_len, HLEN.out.2.2, Nat.zero_add]; exact Nat.le_refl _), List.append_nil]
    rw [e2] at hk2
    have KL2 := Ho.mk (hb2'.blk KL1.out n46)
    have KR2 := Ho.mk (hb2'.blk KR1.out n56)
    have HW2 := Ho.mk (hb2'.bel HW1.out B6)
    clear e2 hb2' KL1 KR1 KT1 HW1
    (with_reducible refine (up_calls b6 m 2 rl 2 _ _ hk2 HLEN.out.2.1 (by omega) HLR.out rfl (by decide) (by decide) (by decide)).mono ?_); rintro e w3 ⟨rfl, hk3, hg3⟩
    have hv3 := up_val (by_ := 2) (inn := 1) HLEN.out.2.1 HLR.out (by decide) (by rw [HVR.out]; have := nat_lt_int B2; omega)
    have hl3 := limbs_len m 1 (fun j => nth rl j * ((2 ^ 2 : Nat) : Int))
    have hL3 := limbs_lims m 1 (fun j => nth rl j * ((2 ^ 2 : Nat) : Int))
    rw [HVR.out] at hv3
    generalize limbs m 1 (fun j => nth rl j * ((2 ^ 2 : Nat) : Int)) = l3 at *
    have KT3 := Ho.mk hk3
    have HV3 : Ho (val l3 = ((4 * R + 1 : Nat) : Int)) := ⟨by rw [hv3]; simp; omega⟩
    have HL3 := Ho.mk (And.intro hl3 hL3)
    have KL3 := Ho.mk (hg3.blk KL2.out n46)
    have KR3 := Ho.mk (hg3.blk KR2.out n56)
    have HW3 := Ho.mk (hg3.bel HW2.out B6)
    clear hk2 hk3 hv3 hl3 hL3 hg3 KL2 KR2 HW2
    have hcmp := cmpTop_all HL1.out.2 HL3.out.2 HL1.out.1 HL3.out.1
    rw [HV1.out, HV3.out] at hcmp
    have HC := Ho.mk hcmp
    clear hcmp
    go_wp2_with fail
    rcases Nat.lt_or_ge (4 * D + b) (4 * R + 1) with hno | hyes
    ·(with_reducible refine (takeNo_calls b4 b6 m l1 l3 _ KL3.out KT3.out HL1.out.1 HL3.out.1 (by omega) (by omega) (by rw [HC.out, cmpI_lt (by omega)]; decide)).mono ?_); rintro e w4 ⟨rfl, hb4'⟩
     have KL4 := Ho.mk (KL3.out.bel hb4')
     have KR4 := Ho.mk (KR3.out.bel hb4')
     have KT4 := Ho.mk (KT3.out.bel hb4')
     have HW4 := Ho.mk (HW3.out.trans hb4')
     clear hb4' KL3 KR3 KT3 HW3
     go_wp2_with fail
     (with_reducible refine (up_calls b5 m 1 rl 1 _ _ KR4.out HLEN.out.2.1 (by omega) HLR.out rfl (by decide) (by decide) (by decide)).mono ?_); rintro e w5 ⟨rfl, hk5, hg5⟩
     have hv5 := up_val (by_ := 1) (inn := 0) HLEN.out.2.1 HLR.out (by decide) (by rw [HVR.out]; have := nat_lt_int B3; omega)
     have hl5 := limbs_len m 0 (fun j => nth rl j * ((2 ^ 1 : Nat) : Int))
     have hL5 := limbs_lims m 0 (fun j => nth rl j * ((2 ^ 1 : Nat) : Int))
     rw [HVR.out] at hv5
     generalize limbs m 0 (fun j => nth rl j * ((2 ^ 1 : Nat) : Int)) = l5 at *
     have HN := Ho.mk (root_no HR.out HBB.out HX.out hxl.out hno)
     have HV5 : Ho (val l5 = ((2 * R : Nat) : Int)) := ⟨by rw [hv5]; simp; omega⟩
     have HX5 := Ho.mk (And.intro hk5 (And.intro hl5 (And.intro hL5 hg5)))
     clear hk5 hv5 hl5 hL5 hg5
     go_wp2
     go_roundw
     case rel =>
      obtain ⟨hk5, hl5, hL5, hg5⟩ := HX5.out
      exact ⟨u', _, _, l1, l5, l3, by omega, by congr 1; have := HT.out; omega, HN, ⟨hg5.blk KL4.out n45⟩, ⟨hk5⟩, ⟨hg5.blk KT4.out (fun e => n56 e.symm)⟩, ⟨HL1.out.1, hl5, HL3.out.1⟩, ⟨HL1.out.2⟩, ⟨hL5⟩, HV1, HV5, ⟨hg5.bel HW4.out B5⟩⟩
     case measure => simp [intOf]; omega
    ·(with_reducible refine (takeYes_calls b4 b6 m l1 l3 _ KL3.out KT3.out HL1.out.1 HL3.out.1 (by omega) (by omega) (by
      rw [HC.out]
      rcases Nat.lt_or_eq_of_le hyes with h | h
      ·rw [cmpI_gt (by omega)]; decide
      ·rw [cmpI_eq (by omega)]; decide) n46 HL1.out.2 HL3.out.2).mono ?_); rintro e w4 ⟨rfl, hk4, hg4⟩
     have hv4 := sub_val HL1.out.1 HL3.out.1 HL1.out.2 HL3.out.2 (by rw [HV1.out, HV3.out]; omega)
     have hl4 := limbs_len m 0 (fun j => nth l1 j - nth l3 j)
     have hL4 := limbs_lims m 0 (fun j => nth l1 j - nth l3 j)
     rw [HV1.out, HV3.out] at hv4
     generalize limbs m 0 (fun j => nth l1 j - nth l3 j) = l4 at *
     have KL4 := Ho.mk hk4
     have HV4 : Ho (val l4 = ((4 * D + b - (4 * R + 1) : Nat) : Int)) := ⟨by rw [hv4]; omega⟩
     have HL4 := Ho.mk (And.intro hl4 hL4)
     have KR4 := Ho.mk (hg4.blk KR3.out (fun e => n45 e.symm))
     have KT4 := Ho.mk (hg4.blk KT3.out (fun e => n46 e.symm))
     have HW4 := Ho.mk (hg4.bel HW3.out B4)
     clear hk4 hv4 hl4 hL4 hg4 KL3 KR3 KT3 HW3
     go_wp2_with fail
     (with_reducible refine (up_calls b5 m 1 rl 1 _ _ KR4.out HLEN.out.2.1 (by omega) HLR.out rfl (by decide) (by decide) (by decide)).mono ?_); rintro e w5 ⟨rfl, hk5, hg5⟩
     have hv5 := up_val (by_ := 1) (inn := 1) HLEN.out.2.1 HLR.out (by decide) (by rw [HVR.out]; have := nat_lt_int B3; omega)
     have hl5 := limbs_len m 1 (fun j => nth rl j * ((2 ^ 1 : Nat) : Int))
     have hL5 := limbs_lims m 1 (fun j => nth rl j * ((2 ^ 1 : Nat) : Int))
     rw [HVR.out] at hv5
     generalize limbs m 1 (fun j => nth rl j * ((2 ^ 1 : Nat) : Int)) = l5 at *
     have HN := Ho.mk (root_yes HR.out HBB.out HX.out hxl.out hyes)
     have HV5 : Ho (val l5 = ((2 * R + 1 : Nat) : Int)) := ⟨by rw [hv5]; simp; omega⟩
     have HX5 := Ho.mk (And.intro hk5 (And.intro hl5 (And.intro hL5 hg5)))
     clear hk5 hv5 hl5 hL5 hg5
     go_wp2
     go_roundw
     case rel =>
      obtain ⟨hk5, hl5, hL5, hg5⟩ := HX5.out
      exact ⟨u', _, _, l4, l5, l3, by omega, by congr 1; have := HT.out; omega, HN, ⟨hg5.blk KL4.out n45⟩, ⟨hk5⟩, ⟨hg5.blk KT4.out (fun e => n56 e.symm)⟩, ⟨HL4.out.1, hl5, HL3.out.1⟩, ⟨HL4.out.2⟩, ⟨hL5⟩, HV4, HV5, ⟨hg5.bel HW4.out B5⟩⟩
     case measure => simp [intOf]; omega
end Nc
namespace F4
open Go Go.RowKit Go.Proofs.YtalbgklfhabnkaaGreatDoor Ow Pl Dp F1
theorem cmp_range (a b : Int) : -1 ≤ cmpI a b ∧ cmpI a b ≤ 1 := by unfold cmpI; split <;> (try split) <;> omega
end F4
namespace F0
open Go Go.RowKit Go.Proofs.YtalbgklfhabnkaaGreatDoor Ow Pl Dp Dt D3 F1
section
variable {w : World} {A B : Option Addr} {c d : Nat} {u v : Int} {L U L' U' : Nat}
theorem dOf1 (T : Tab w) : Calls Tryz.prog 177 #[.int .i64 1] w (MakesD w (2 ^ K) 0 64) := by
 have := dOf T 1 (by omega) (by omega)
 rwa [Int.one_mul] at this
end
end F0
namespace I2
open Go Go.RowKit Go.Proofs.YtalbgklfhabnkaaGreatDoor Ow Pl Dp Dt D3 F1 T0 I0
attribute [local go_sem ↓] Go.wp_at_zero Go.wp_at_succ
def MakesN (w : World) (x b : Nat) (e : Ending) (w' : World) : Prop := ∃ A c, e = .returned (.slice A (digs x).length c) ∧ Nv w' A c x b ∧ Bel w w'
theorem makesN_of {w : World} {x b : Nat} (hb : x < 2 ^ b) : ∀ e w', (∃ A c, e = .returned (.slice A (digs x).length c) ∧ (digs x).length ≤ c ∧ Rd w' A (digs x) ∧ Bel w w') → MakesN w x b e w' :=
 fun e w' ⟨A, c, h1, h2, h3, h4⟩ => ⟨A, c, h1, ⟨h2, h3, hb⟩, h4⟩
theorem rootN_lt2 {x b : Nat} (h : x < 2 ^ b) : rootN x < 2 ^ b := Nat.lt_of_le_of_lt (sq_le_self (rootN_le x)) h
section
variable {w : World} {A B : Option Addr} {c d x y b b' : Nat}
theorem dShl (h : Nv w A c x b) (hb : b ≤ 20000) {k : Nat} {kk : Int} (hk : (k : Int) = kk) (hk2 : k ≤ 20000) : Calls Tryz.prog 167 #[.slice A (digs x).length c, .int .i64 kk] w (MakesN w (x * 2 ^ k) (b + k)) :=
 (N9.shl_calls A c x k kk w h.rd h.cap (by have := h.len; omega) (by omega) (by omega)).mono (makesN_of (by rw [Nat.pow_add]; exact Nat.mul_lt_mul_of_pos_right h.lt (Nat.two_pow_pos k)))
theorem dRootN (h : Nv w A c x b) (hb : b ≤ 20000) : Calls Tryz.prog 225 #[.slice A (digs x).length c] w (MakesN w (rootN x) b) :=
 (Nc.root_calls A c x w h.rd h.cap (by have := h.len; omega)).mono (makesN_of (rootN_lt2 h.lt))
theorem mul_lt2 {x y b b' : Nat} (h : x < 2 ^ b) (k : y < 2 ^ b') : x * y < 2 ^ (b + b') := by rw [Nat.pow_add]; exact Nat.mul_lt_mul'' h k
theorem add_lt2 {x y b b' : Nat} (h : x < 2 ^ b) (k : y < 2 ^ b') : x + y < 2 ^ (b + b' + 1) := by
 have h1 : 2 ^ b ≤ 2 ^ (b + b') := Nat.pow_le_pow_right (by decide) (by omega)
 have h2 : 2 ^ b' ≤ 2 ^ (b + b') := Nat.pow_le_pow_right (by decide) (by omega)
 rw [Nat.pow_succ]; omega
theorem dMulN (h : Nv w A c x b) (k : Nv w B d y b') (hb : b ≤ 20000) (hb' : b' ≤ 20000) : Calls Tryz.prog 226 #[.slice A (digs x).length c, .slice B (digs y).length d] w (MakesN w (x * y) (b + b')) :=
 (N8.mul_calls A B c d x y w h.rd k.rd (by have := h.len; omega) (by have := k.len; omega)).mono (makesN_of (mul_lt2 h.lt k.lt))
theorem dAddN (h : Nv w A c x b) (k : Nv w B d y b') (hb : b ≤ 20000) (hb' : b' ≤ 20000) : Calls Tryz.prog 192 #[.slice A (digs x).length c, .slice B (digs y).length d] w (MakesN w (x + y) (b + b' + 1)) :=
 (N4.add_calls A B c d x y w h.rd h.cap k.rd k.cap (by have := h.len; omega) (by have := k.len; omega)).mono (makesN_of (add_lt2 h.lt k.lt))
theorem dOf1N : Calls Tryz.prog 170 #[.int .i64 1] w (MakesN w 1 1) := (R2.natOf_calls 1 1 w rfl (by omega)).mono (makesN_of (by decide))
theorem dCmpN (h : Nv w A c x b) (k : Nv w B d y b') {r : Int} (hr : cmpI x y = r) : Calls Tryz.prog 171 #[.slice A (digs x).length c, .slice B (digs y).length d] w (Tells w (.int .i64 r)) := by
 subst hr
 exact (N5.cmp_calls A B c d x y w h.rd k.rd).mono fun e w' ⟨h1, n, h2⟩ => ⟨h1, h2 ▸ (Bel.refl w).drewN n⟩
theorem dLenN (h : Nv w A c x b) {r : Int} (hr : (blen x : Int) = r) : Calls Tryz.prog 154 #[.slice A (digs x).length c] w (Tells w (.int .i64 r)) := by
 subst hr; exact (N6.natLen_calls A c x w h.rd).mono fun e w' ⟨h1, h2⟩ => ⟨h1, h2 ▸ Bel.refl w⟩
variable {u r : Int} {L U L' U' : Nat}
theorem dCutE (T : Tab w) (h : Dv w A c u L U) {n : Nat} {up : Bool} (h1 : L + U ≤ 20000) (hn : n ≤ 20000) {nn : Int} (hnn : (n : Int) = nn) (hr : cutV u n up = r) (hW : Wd r L' U') :
  Calls Tryz.prog 221 #[.agg #[.bool (dneg u), .slice A (digs (dm u)).length c, .int .i64 (de u)], .int .i64 nn, .bool up] w (MakesD w r L' U') := by
 subst hr
 exact (F1.dCut T h n up h1 hn hnn).mono fun e w' ⟨A, c, h1, h2, h3⟩ => ⟨A, c, h1, Dv.wid h2 hW, h3⟩
end
theorem root_parts {v : Int} {n : Nat} {nn bl ev : Int} (hnn : (n : Int) = nn) (hbl : (blen (dm v) : Int) = bl) (hev : de v = ev) {k0 kk q : Int} (hk0 : k0 = max (2 * nn + 4 - bl) 0) (hkk : kk = k0 + (ev - k0) % 2) (hq : q = (ev - kk).tdiv 2) :
  (rootK (dm v) (de v) n : Int) = kk ∧ (de v - rootK (dm v) (de v) n) / 2 = q ∧ 0 ≤ kk := by
 have h1 : ((2 * n + 4 - blen (dm v) : Nat) : Int) = k0 := by omega
 have h2 : (rootK (dm v) (de v) n : Int) = kk := by
  unfold rootK
  rw [hev]
  generalize 2 * n + 4 - blen (dm v) = k at *
  omega
 refine ⟨h2, ?_, by omega⟩
 rw [h2, hev, hq, Int.tdiv_eq_ediv_of_dvd (Int.dvd_of_emod_eq_zero (by omega))]
theorem and_one (z : Int) : bits .and .i64 z 1 = z % 2 := by
 show IntKind.i64.wrap ((BitVec.ofInt 64 z &&& BitVec.ofInt 64 1).toNat : Nat) = _
 rw [BitVec.toNat_and, BitVec.toNat_ofInt, BitVec.toNat_ofInt, show ((1 : Int) % ((2 ^ 64 : Nat) : Int)).toNat = 1 by decide, Nat.and_one_is_mod, IntKind.wrap_i64]
 omega
theorem droot_bl {A0 : Option Addr} {c0 : Nat} {v : Int} {n kN : Nat} {nn bl b q cm r : Int} {up : Bool} {L U : Nat} (w : World) (T : Tab w) (p0 : Dv w A0 c0 v 3000 3000) (hnn : (n : Int) = nn) (hn : n ≤ 3000) (hbl : (blen (dm v) : Int) = bl) (hb0 : 0 ≤ bl) (hb1 : bl ≤ 6000)
  (hz : 0 ≤ 2 * nn + 4 - bl) (hand : bits .and .i64 (de v - (2 * nn + 4 - bl)) 1 = b) (hbb0 : 0 ≤ b) (hbb1 : b ≤ 1) (hkk : (kN : Int) = 2 * nn + 4 - bl + b) (hq : (de v - (2 * nn + 4 - bl + b)).tdiv 2 = q) (hq0 : -4600 ≤ q) (hq1 : q ≤ 1500)
  (hcm : cmpI (rootN (dm v * 2 ^ kN) * rootN (dm v * 2 ^ kN) : Nat) ((dm v * 2 ^ kN) : Nat) = cm) (hcc : cm < 0) (hr : cutV (sc false (rootN (dm v * 2 ^ kN) * 2 ^ 1 + 1) (q - 1)) n up = r) (hW : Wd r L U) :
  Calls Tryz.prog 218 #[.agg #[.bool (dneg v), .slice A0 (digs (dm v)).length c0, .int .i64 (de v)], .int .i64 nn, .bool up] w (MakesD w r L U) := by
 have TT := Ho.mk T
 have HBL := Ho.mk hbl
 have HKK := Ho.mk hkk
 have HCM := Ho.mk hcm
 have HR := Ho.mk hr
 have HW := Ho.mk hW
 have hkN : kN ≤ 6010 := by omega
 have e0 := p0.wd.e_ge
 have e1 := p0.wd.e_le
 have hc : decide (cm < 0) = true := decide_eq_true (by omega)
 clear T hbl hkk hcm hr hW
 go_enter Tryz.func218, Tryz.ntmps218
 go_wp2_with fail
 have KB3 := Ho.mk (Blk.new w [.bool (dneg v), .slice A0 (digs (dm v)).length c0, .int .i64 (de v)] 37)
 have g0 := (Bel.refl w).alloc (.cells #[.bool (dneg v), .slice A0 (digs (dm v)).length c0, .int .i64 (de v)] 37)
 have hS : (w.alloc (.cells #[.bool (dneg v), .slice A0 (digs (dm v)).length c0, .int .i64 (de v)] 37)).heap.size = w.heap.size + 1 := by simp only [World.size_alloc]
 have hZ : (w.alloc (.cells #[.bool (dneg v), .slice A0 (digs (dm v)).length c0, .int .i64 (de v)] 37)) = (w.alloc (.cells #[.bool (dneg v), .slice A0 (digs (dm v)).length c0, .int .i64 (de v)] 37)) := rfl
 generalize (w.alloc (.cells #[.bool (dneg v), .slice A0 (digs (dm v)).length c0, .int .i64 (de v)] 37)) = w0 at *
 clear hZ
 have KR := Ho.mk (Blk.new w0 [.bool false, .slice none 0 0, .int .i64 0] 37)
 rw [hS] at KR
 have KB3_0_1 := Ho.mk ((KB3.out.bel ((Bel.refl _).alloc (.cells #[.bool false, .slice none 0 0, .int .i64 0] 37))))
 obtain ⟨yB3_0_1_0, yB3_0_1_1, yB3_0_1_2⟩ := KB3_0_1.out.c3
 (with_reducible refine (dLenN (((p0.bel g0).nv (by omega)).bel ((Bel.refl _).alloc (.cells #[.bool false, .slice none 0 0, .int .i64 0] 37))) HBL.out).mono ?_); rintro e w1 ⟨rfl, b1⟩
 clear yB3_0_1_0 yB3_0_1_1 yB3_0_1_2
 have KB3_1_0 := Ho.mk ((KB3_0_1.out.bel ((Bel.refl _).trans b1)))
 obtain ⟨yB3_1_0_0, yB3_1_0_1, yB3_1_0_2⟩ := KB3_1_0.out.c3
 go_wp2_with fail
 (with_reducible refine (dShl (((p0.bel g0).nv (by omega)).bel (((Bel.refl _).alloc (.cells #[.bool false, .slice none 0 0, .int .i64 0] 37)).trans b1)) (by omega) (k := kN) HKK.out (by omega)).mono ?_); rintro e w2 ⟨A2, c2, rfl, n2, b2⟩
 clear yB3_1_0_0 yB3_1_0_1 yB3_1_0_2
 go_wp2_with fail
 (with_reducible refine (dRootN n2 (by omega)).mono ?_); rintro e w3 ⟨A3, c3, rfl, n3, b3⟩
 go_wp2_with fail
 (with_reducible refine (dShl n3 (by omega) (k := 1) (kk := 1) rfl (by omega)).mono ?_); rintro e w4 ⟨A4, c4, rfl, n4, b4⟩
 go_wp2_with fail
 (with_reducible refine (dMulN (n3.bel ((Bel.refl _).trans b4)) (n3.bel ((Bel.refl _).trans b4)) (by omega) (by omega)).mono ?_); rintro e w5 ⟨A5, c5, rfl, n5, b5⟩
 go_wp2_with fail
 (with_reducible refine (dCmpN n5 (n2.bel ((((Bel.refl _).trans b3).trans b4).trans b5)) HCM.out).mono ?_); rintro e w6 ⟨rfl, b6⟩
 go_wp2_with fail
 (with_reducible refine (dOf1N).mono ?_); rintro e w7 ⟨A7, c7, rfl, n7, b7⟩
 go_wp2_with fail
 (with_reducible refine (dAddN (n4.bel ((((Bel.refl _).trans b5).trans b6).trans b7)) n7 (by omega) (by omega)).mono ?_); rintro e w8 ⟨A8, c8, rfl, n8, b8⟩
 have KB3_8_0 := Ho.mk ((KB3_1_0.out.bel ((((((((Bel.refl _).trans b2).trans b3).trans b4).trans b5).trans b6).trans b7).trans b8)))
 obtain ⟨yB3_8_0_0, yB3_8_0_1, yB3_8_0_2⟩ := KB3_8_0.out.c3
 go_wp2_with fail
 (with_reducible refine (F1.dMake (TT.out.bel (g0.trans ((((((((((Bel.refl _).alloc (.cells #[.bool false, .slice none 0 0, .int .i64 0] 37)).trans b1).trans b2).trans b3).trans b4).trans b5).trans b6).trans b7).trans b8))) n8 false (q - 1) (L := 4700) (U := 15000) (by omega) (by omega) (by omega) (by omega) (by omega)).mono ?_); rintro e w9 ⟨A9, c9, rfl, n9, b9⟩
 clear yB3_8_0_0 yB3_8_0_1 yB3_8_0_2
 go_wp2_with fail
 (with_reducible refine (dCutE (TT.out.bel (g0.trans (((((((((((Bel.refl _).alloc (.cells #[.bool false, .slice none 0 0, .int .i64 0] 37)).trans b1).trans b2).trans b3).trans b4).trans b5).trans b6).trans b7).trans b8).trans b9))) n9 (by omega) (by omega) hnn HR.out HW.out).mono ?_); rintro e w10 ⟨A10, c10, rfl, n10, b10⟩
 have KRz := Ho.mk ((KR.out.bel (((((((((((Bel.refl _).trans b1).trans b2).trans b3).trans b4).trans b5).trans b6).trans b7).trans b8).trans b9).trans b10)))
 have yr0 := KRz.out.cell (i := 0) rfl
 have zr0 := KRz.out.free 0
 have yr1 := KRz.out.cell (i := 1) rfl
 have zr1 := KRz.out.free 1
 have yr2 := KRz.out.cell (i := 2) rfl
 have zr2 := KRz.out.free 2
 have BZ := Ho.mk (g0.trans ((((((((((((Bel.refl _).alloc (.cells #[.bool false, .slice none 0 0, .int .i64 0] 37)).trans b1).trans b2).trans b3).trans b4).trans b5).trans b6).trans b7).trans b8).trans b9).trans b10))
 have HZ0 := Ho.mk n10
 go_wp2
 exact I0.gives_endD (fn := Tryz.f218) rfl rfl BZ.out (by omega) KRz.out (HZ0.out.mono (by omega) (by omega))
theorem droot_be {A0 : Option Addr} {c0 : Nat} {v : Int} {n kN : Nat} {nn bl b q cm r : Int} {up : Bool} {L U : Nat} (w : World) (T : Tab w) (p0 : Dv w A0 c0 v 3000 3000) (hnn : (n : Int) = nn) (hn : n ≤ 3000) (hbl : (blen (dm v) : Int) = bl) (hb0 : 0 ≤ bl) (hb1 : bl ≤ 6000)
  (hz : 0 ≤ 2 * nn + 4 - bl) (hand : bits .and .i64 (de v - (2 * nn + 4 - bl)) 1 = b) (hbb0 : 0 ≤ b) (hbb1 : b ≤ 1) (hkk : (kN : Int) = 2 * nn + 4 - bl + b) (hq : (de v - (2 * nn + 4 - bl + b)).tdiv 2 = q) (hq0 : -4600 ≤ q) (hq1 : q ≤ 1500)
  (hcm : cmpI (rootN (dm v * 2 ^ kN) * rootN (dm v * 2 ^ kN) : Nat) ((dm v * 2 ^ kN) : Nat) = cm) (hcc : 0 ≤ cm) (hr : cutV (sc false (rootN (dm v * 2 ^ kN) * 2 ^ 1) (q - 1)) n up = r) (hW : Wd r L U) :
  Calls Tryz.prog 218 #[.agg #[.bool (dneg v), .slice A0 (digs (dm v)).length c0, .int .i64 (de v)], .int .i64 nn, .bool up] w (MakesD w r L U) := by
 have TT := Ho.mk T
 have HBL := Ho.mk hbl
 have HKK := Ho.mk hkk
 have HCM := Ho.mk hcm
 have HR := Ho.mk hr
 have HW := Ho.mk hW
 have hkN : kN ≤ 6010 := by omega
 have e0 := p0.wd.e_ge
 have e1 := p0.wd.e_le
 have hc : decide (cm < 0) = false := decide_eq_false (by omega)
 clear T hbl hkk hcm hr hW
 go_enter Tryz.func218, Tryz.ntmps218
 go_wp2_with fail
 have KB3 := Ho.mk (Blk.new w [.bool (dneg v), .slice A0 (digs (dm v)).length c0, .int .i64 (de v)] 37)
 have g0 := (Bel.refl w).alloc (.cells #[.bool (dneg v), .slice A0 (digs (dm v)).length c0, .int .i64 (de v)] 37)
 have hS : (w.alloc (.cells #[.bool (dneg v), .slice A0 (digs (dm v)).length c0, .int .i64 (de v)] 37)).heap.size = w.heap.size + 1 := by simp only [World.size_alloc]
 have hZ : (w.alloc (.cells #[.bool (dneg v), .slice A0 (digs (dm v)).length c0, .int .i64 (de v)] 37)) = (w.alloc (.cells #[.bool (dneg v), .slice A0 (digs (dm v)).length c0, .int .i64 (de v)] 37)) := rfl
 generalize (w.alloc (.cells #[.bool (dneg v), .slice A0 (digs (dm v)).length c0, .int .i64 (de v)] 37)) = w0 at *
 clear hZ
 have KR := Ho.mk (Blk.new w0 [.bool false, .slice none 0 0, .int .i64 0] 37)
 rw [hS] at KR
 have KB3_0_1 := Ho.mk ((KB3.out.bel ((Bel.refl _).alloc (.cells #[.bool false, .slice none 0 0, .int .i64 0] 37))))
 obtain ⟨yB3_0_1_0, yB3_0_1_1, yB3_0_1_2⟩ := KB3_0_1.out.c3
 (with_reducible refine (dLenN (((p0.bel g0).nv (by omega)).bel ((Bel.refl _).alloc (.cells #[.bool false, .slice none 0 0, .int .i64 0] 37))) HBL.out).mono ?_); rintro e w1 ⟨rfl, b1⟩
 clear yB3_0_1_0 yB3_0_1_1 yB3_0_1_2
 have KB3_1_0 := Ho.mk ((KB3_0_1.out.bel ((Bel.refl _).trans b1)))
 obtain ⟨yB3_1_0_0, yB3_1_0_1, yB3_1_0_2⟩ := KB3_1_0.out.c3
 go_wp2_with fail
 (with_reducible refine (dShl (((p0.bel g0).nv (by omega)).bel (((Bel.refl _).alloc (.cells #[.bool false, .slice none 0 0, .int .i64 0] 37)).trans b1)) (by omega) (k := kN) HKK.out (by omega)).mono ?_); rintro e w2 ⟨A2, c2, rfl, n2, b2⟩
 clear yB3_1_0_0 yB3_1_0_1 yB3_1_0_2
 go_wp2_with fail
 (with_reducible refine (dRootN n2 (by omega)).mono ?_); rintro e w3 ⟨A3, c3, rfl, n3, b3⟩
 go_wp2_with fail
 (with_reducible refine (dShl n3 (by omega) (k := 1) (kk := 1) rfl (by omega)).mono ?_); rintro e w4 ⟨A4, c4, rfl, n4, b4⟩
 go_wp2_with fail
 (with_reducible refine (dMulN (n3.bel ((Bel.refl _).trans b4)) (n3.bel ((Bel.refl _).trans b4)) (by omega) (by omega)).mono ?_); rintro e w5 ⟨A5, c5, rfl, n5, b5⟩
 go_wp2_with fail
 (with_reducible refine (dCmpN n5 (n2.bel ((((Bel.refl _).trans b3).trans b4).trans b5)) HCM.out).mono ?_); rintro e w6 ⟨rfl, b6⟩
 have KB3_6_0 := Ho.mk ((KB3_1_0.out.bel ((((((Bel.refl _).trans b2).trans b3).trans b4).trans b5).trans b6)))
 obtain ⟨yB3_6_0_0, yB3_6_0_1, yB3_6_0_2⟩ := KB3_6_0.out.c3
 go_wp2_with fail
 (with_reducible refine (F1.dMake (TT.out.bel (g0.trans ((((((((Bel.refl _).alloc (.cells #[.bool false, .slice none 0 0, .int .i64 0] 37)).trans b1).trans b2).trans b3).trans b4).trans b5).trans b6))) (n4.bel (((Bel.refl _).trans b5).trans b6)) false (q - 1) (L := 4700) (U := 15000) (by omega) (by omega) (by omega) (by omega) (by omega)).mono ?_); rintro e w7 ⟨A7, c7, rfl, n7, b7⟩
 clear yB3_6_0_0 yB3_6_0_1 yB3_6_0_2
 go_wp2_with fail
 (with_reducible refine (dCutE (TT.out.bel (g0.trans (((((((((Bel.refl _).alloc (.cells #[.bool false, .slice none 0 0, .int .i64 0] 37)).trans b1).trans b2).trans b3).trans b4).trans b5).trans b6).trans b7))) n7 (by omega) (by omega) hnn HR.out HW.out).mono ?_); rintro e w8 ⟨A8, c8, rfl, n8, b8⟩
 have KRz := Ho.mk ((KR.out.bel (((((((((Bel.refl _).trans b1).trans b2).trans b3).trans b4).trans b5).trans b6).trans b7).trans b8)))
 have yr0 := KRz.out.cell (i := 0) rfl
 have zr0 := KRz.out.free 0
 have yr1 := KRz.out.cell (i := 1) rfl
 have zr1 := KRz.out.free 1
 have yr2 := KRz.out.cell (i := 2) rfl
 have zr2 := KRz.out.free 2
 have BZ := Ho.mk (g0.trans ((((((((((Bel.refl _).alloc (.cells #[.bool false, .slice none 0 0, .int .i64 0] 37)).trans b1).trans b2).trans b3).trans b4).trans b5).trans b6).trans b7).trans b8))
 have HZ0 := Ho.mk n8
 go_wp2
 exact I0.gives_endD (fn := Tryz.f218) rfl rfl BZ.out (by omega) KRz.out (HZ0.out.mono (by omega) (by omega))
theorem droot_zl {A0 : Option Addr} {c0 : Nat} {v : Int} {n kN : Nat} {nn bl b q cm r : Int} {up : Bool} {L U : Nat} (w : World) (T : Tab w) (p0 : Dv w A0 c0 v 3000 3000) (hnn : (n : Int) = nn) (hn : n ≤ 3000) (hbl : (blen (dm v) : Int) = bl) (hb0 : 0 ≤ bl) (hb1 : bl ≤ 6000)
  (hz : 2 * nn + 4 - bl < 0) (hand : bits .and .i64 (de v) 1 = b) (hbb0 : 0 ≤ b) (hbb1 : b ≤ 1) (hkk : (kN : Int) = b) (hq : (de v - b).tdiv 2 = q) (hq0 : -4600 ≤ q) (hq1 : q ≤ 1500)
  (hcm : cmpI (rootN (dm v * 2 ^ kN) * rootN (dm v * 2 ^ kN) : Nat) ((dm v * 2 ^ kN) : Nat) = cm) (hcc : cm < 0) (hr : cutV (sc false (rootN (dm v * 2 ^ kN) * 2 ^ 1 + 1) (q - 1)) n up = r) (hW : Wd r L U) :
  Calls Tryz.prog 218 #[.agg #[.bool (dneg v), .slice A0 (digs (dm v)).length c0, .int .i64 (de v)], .int .i64 nn, .bool up] w (MakesD w r L U) := by
 have TT := Ho.mk T
 have HBL := Ho.mk hbl
 have HKK := Ho.mk hkk
 have HCM := Ho.mk hcm
 have HR := Ho.mk hr
 have HW := Ho.mk hW
 have hkN : kN ≤ 6010 := by omega
 have e0 := p0.wd.e_ge
 have e1 := p0.wd.e_le
 have hc : decide (cm < 0) = true := decide_eq_true (by omega)
 clear T hbl hkk hcm hr hW
 have hwb : wrap64 b = b := by simp only [wrap64]; omega
 go_enter Tryz.func218, Tryz.ntmps218
 go_wp2_with fail
 have KB3 := Ho.mk (Blk.new w [.bool (dneg v), .slice A0 (digs (dm v)).length c0, .int .i64 (de v)] 37)
 have g0 := (Bel.refl w).alloc (.cells #[.bool (dneg v), .slice A0 (digs (dm v)).length c0, .int .i64 (de v)] 37)
 have hS : (w.alloc (.cells #[.bool (dneg v), .slice A0 (digs (dm v)).length c0, .int .i64 (de v)] 37)).heap.size = w.heap.size + 1 := by simp only [World.size_alloc]
 have hZ : (w.alloc (.cells #[.bool (dneg v), .slice A0 (digs (dm v)).length c0, .int .i64 (de v)] 37)) = (w.alloc (.cells #[.bool (dneg v), .slice A0 (digs (dm v)).length c0, .int .i64 (de v)] 37)) := rfl
 generalize (w.alloc (.cells #[.bool (dneg v), .slice A0 (digs (dm v)).length c0, .int .i64 (de v)] 37)) = w0 at *
 clear hZ
 have KR := Ho.mk (Blk.new w0 [.bool false, .slice none 0 0, .int .i64 0] 37)
 rw [hS] at KR
 have KB3_0_1 := Ho.mk ((KB3.out.bel ((Bel.refl _).alloc (.cells #[.bool false, .slice none 0 0, .int .i64 0] 37))))
 obtain ⟨yB3_0_1_0, yB3_0_1_1, yB3_0_1_2⟩ := KB3_0_1.out.c3
 (with_reducible refine (dLenN (((p0.bel g0).nv (by omega)).bel ((Bel.refl _).alloc (.cells #[.bool false, .slice none 0 0, .int .i64 0] 37))) HBL.out).mono ?_); rintro e w1 ⟨rfl, b1⟩
 clear yB3_0_1_0 yB3_0_1_1 yB3_0_1_2
 have KB3_1_0 := Ho.mk ((KB3_0_1.out.bel ((Bel.refl _).trans b1)))
 obtain ⟨yB3_1_0_0, yB3_1_0_1, yB3_1_0_2⟩ := KB3_1_0.out.c3
 go_wp2_with fail
 (with_reducible refine (dShl (((p0.bel g0).nv (by omega)).bel (((Bel.refl _).alloc (.cells #[.bool false, .slice none 0 0, .int .i64 0] 37)).trans b1)) (by omega) (k := kN) HKK.out (by omega)).mono ?_); rintro e w2 ⟨A2, c2, rfl, n2, b2⟩
 clear yB3_1_0_0 yB3_1_0_1 yB3_1_0_2
 go_wp2_with fail
 (with_reducible refine (dRootN n2 (by omega)).mono ?_); rintro e w3 ⟨A3, c3, rfl, n3, b3⟩
 go_wp2_with fail
 (with_reducible refine (dShl n3 (by omega) (k := 1) (kk := 1) rfl (by omega)).mono ?_); rintro e w4 ⟨A4, c4, rfl, n4, b4⟩
 go_wp2_with fail
 (with_reducible refine (dMulN (n3.bel ((Bel.refl _).trans b4)) (n3.bel ((Bel.refl _).trans b4)) (by omega) (by omega)).mono ?_); rintro e w5 ⟨A5, c5, rfl, n5, b5⟩
 go_wp2_with fail
 (with_reducible refine (dCmpN n5 (n2.bel ((((Bel.refl _).trans b3).trans b4).trans b5)) HCM.out).mono ?_); rintro e w6 ⟨rfl, b6⟩
 go_wp2_with fail
 (with_reducible refine (dOf1N).mono ?_); rintro e w7 ⟨A7, c7, rfl, n7, b7⟩
 go_wp2_with fail
 (with_reducible refine (dAddN (n4.bel ((((Bel.refl _).trans b5).trans b6).trans b7)) n7 (by omega) (by omega)).mono ?_); rintro e w8 ⟨A8, c8, rfl, n8, b8⟩
 have KB3_8_0 := Ho.mk ((KB3_1_0.out.bel ((((((((Bel.refl _).trans b2).trans b3).trans b4).trans b5).trans b6).trans b7).trans b8)))
 obtain ⟨yB3_8_0_0, yB3_8_0_1, yB3_8_0_2⟩ := KB3_8_0.out.c3
 go_wp2_with fail
 (with_reducible refine (F1.dMake (TT.out.bel (g0.trans ((((((((((Bel.refl _).alloc (.cells #[.bool false, .slice none 0 0, .int .i64 0] 37)).trans b1).trans b2).trans b3).trans b4).trans b5).trans b6).trans b7).trans b8))) n8 false (q - 1) (L := 4700) (U := 15000) (by omega) (by omega) (by omega) (by omega) (by omega)).mono ?_); rintro e w9 ⟨A9, c9, rfl, n9, b9⟩
 clear yB3_8_0_0 yB3_8_0_1 yB3_8_0_2
 go_wp2_with fail
 (with_reducible refine (dCutE (TT.out.bel (g0.trans (((((((((((Bel.refl _).alloc (.cells #[.bool false, .slice none 0 0, .int .i64 0] 37)).trans b1).trans b2).trans b3).trans b4).trans b5).trans b6).trans b7).trans b8).trans b9))) n9 (by omega) (by omega) hnn HR.out HW.out).mono ?_); rintro e w10 ⟨A10, c10, rfl, n10, b10⟩
 have KRz := Ho.mk ((KR.out.bel (((((((((((Bel.refl _).trans b1).trans b2).trans b3).trans b4).trans b5).trans b6).trans b7).trans b8).trans b9).trans b10)))
 have yr0 := KRz.out.cell (i := 0) rfl
 have zr0 := KRz.out.free 0
 have yr1 := KRz.out.cell (i := 1) rfl
 have zr1 := KRz.out.free 1
 have yr2 := KRz.out.cell (i := 2) rfl
 have zr2 := KRz.out.free 2
 have BZ := Ho.mk (g0.trans ((((((((((((Bel.refl _).alloc (.cells #[.bool false, .slice none 0 0, .int .i64 0] 37)).trans b1).trans b2).trans b3).trans b4).trans b5).trans b6).trans b7).trans b8).trans b9).trans b10))
 have HZ0 := Ho.mk n10
 go_wp2
 exact I0.gives_endD (fn := Tryz.f218) rfl rfl BZ.out (by omega) KRz.out (HZ0.out.mono (by omega) (by omega))
theorem droot_ze {A0 : Option Addr} {c0 : Nat} {v : Int} {n kN : Nat} {nn bl b q cm r : Int} {up : Bool} {L U : Nat} (w : World) (T : Tab w) (p0 : Dv w A0 c0 v 3000 3000) (hnn : (n : Int) = nn) (hn : n ≤ 3000) (hbl : (blen (dm v) : Int) = bl) (hb0 : 0 ≤ bl) (hb1 : bl ≤ 6000)
  (hz : 2 * nn + 4 - bl < 0) (hand : bits .and .i64 (de v) 1 = b) (hbb0 : 0 ≤ b) (hbb1 : b ≤ 1) (hkk : (kN : Int) = b) (hq : (de v - b).tdiv 2 = q) (hq0 : -4600 ≤ q) (hq1 : q ≤ 1500)
  (hcm : cmpI (rootN (dm v * 2 ^ kN) * rootN (dm v * 2 ^ kN) : Nat) ((dm v * 2 ^ kN) : Nat) = cm) (hcc : 0 ≤ cm) (hr : cutV (sc false (rootN (dm v * 2 ^ kN) * 2 ^ 1) (q - 1)) n up = r) (hW : Wd r L U) :
  Calls Tryz.prog 218 #[.agg #[.bool (dneg v), .slice A0 (digs (dm v)).length c0, .int .i64 (de v)], .int .i64 nn, .bool up] w (MakesD w r L U) := by
 have TT := Ho.mk T
 have HBL := Ho.mk hbl
 have HKK := Ho.mk hkk
 have HCM := Ho.mk hcm
 have HR := Ho.mk hr
 have HW := Ho.mk hW
 have hkN : kN ≤ 6010 := by omega
 have e0 := p0.wd.e_ge
 have e1 := p0.wd.e_le
 have hc : decide (cm < 0) = false := decide_eq_false (by omega)
 clear T hbl hkk hcm hr hW
 have hwb : wrap64 b = b := by simp only [wrap64]; omega
 go_enter Tryz.func218, Tryz.ntmps218
 go_wp2_with fail
 have KB3 := Ho.mk (Blk.new w [.bool (dneg v), .slice A0 (digs (dm v)).length c0, .int .i64 (de v)] 37)
 have g0 := (Bel.refl w).alloc (.cells #[.bool (dneg v), .slice A0 (digs (dm v)).length c0, .int .i64 (de v)] 37)
 have hS : (w.alloc (.cells #[.bool (dneg v), .slice A0 (digs (dm v)).length c0, .int .i64 (de v)] 37)).heap.size = w.heap.size + 1 := by simp only [World.size_alloc]
 have hZ : (w.alloc (.cells #[.bool (dneg v), .slice A0 (digs (dm v)).length c0, .int .i64 (de v)] 37)) = (w.alloc (.cells #[.bool (dneg v), .slice A0 (digs (dm v)).length c0, .int .i64 (de v)] 37)) := rfl
 generalize (w.alloc (.cells #[.bool (dneg v), .slice A0 (digs (dm v)).length c0, .int .i64 (de v)] 37)) = w0 at *
 clear hZ
 have KR := Ho.mk (Blk.new w0 [.bool false, .slice none 0 0, .int .i64 0] 37)
 rw [hS] at KR
 have KB3_0_1 := Ho.mk ((KB3.out.bel ((Bel.refl _).alloc (.cells #[.bool false, .slice none 0 0, .int .i64 0] 37))))
 obtain ⟨yB3_0_1_0, yB3_0_1_1, yB3_0_1_2⟩ := KB3_0_1.out.c3
 (with_reducible refine (dLenN (((p0.bel g0).nv (by omega)).bel ((Bel.refl _).alloc (.cells #[.bool false, .slice none 0 0, .int .i64 0] 37))) HBL.out).mono ?_); rintro e w1 ⟨rfl, b1⟩
 clear yB3_0_1_0 yB3_0_1_1 yB3_0_1_2
 have KB3_1_0 := Ho.mk ((KB3_0_1.out.bel ((Bel.refl _).trans b1)))
 obtain ⟨yB3_1_0_0, yB3_1_0_1, yB3_1_0_2⟩ := KB3_1_0.out.c3
 go_wp2_with fail
 (with_reducible refine (dShl (((p0.bel g0).nv (by omega)).bel (((Bel.refl _).alloc (.cells #[.bool false, .slice none 0 0, .int .i64 0] 37)).trans b1)) (by omega) (k := kN) HKK.out (by omega)).mono ?_); rintro e w2 ⟨A2, c2, rfl, n2, b2⟩
 clear yB3_1_0_0 yB3_1_0_1 yB3_1_0_2
 go_wp2_with fail
 (with_reducible refine (dRootN n2 (by omega)).mono ?_); rintro e w3 ⟨A3, c3, rfl, n3, b3⟩
 go_wp2_with fail
 (with_reducible refine (dShl n3 (by omega) (k := 1) (kk := 1) rfl (by omega)).mono ?_); rintro e w4 ⟨A4, c4, rfl, n4, b4⟩
 go_wp2_with fail
 (with_reducible refine (dMulN (n3.bel ((Bel.refl _).trans b4)) (n3.bel ((Bel.refl _).trans b4)) (by omega) (by omega)).mono ?_); rintro e w5 ⟨A5, c5, rfl, n5, b5⟩
 go_wp2_with fail
 (with_reducible refine (dCmpN n5 (n2.bel ((((Bel.refl _).trans b3).trans b4).trans b5)) HCM.out).mono ?_); rintro e w6 ⟨rfl, b6⟩
 have KB3_6_0 := Ho.mk ((KB3_1_0.out.bel ((((((Bel.refl _).trans b2).trans b3).trans b4).trans b5).trans b6)))
 obtain ⟨yB3_6_0_0, yB3_6_0_1, yB3_6_0_2⟩ := KB3_6_0.out.c3
 go_wp2_with fail
 (with_reducible refine (F1.dMake (TT.out.bel (g0.trans ((((((((Bel.refl _).alloc (.cells #[.bool false, .slice none 0 0, .int .i64 0] 37)).trans b1).trans b2).trans b3).trans b4).trans b5).trans b6))) (n4.bel (((Bel.refl _).trans b5).trans b6)) false (q - 1) (L := 4700) (U := 15000) (by omega) (by omega) (by omega) (by omega) (by omega)).mono ?_); rintro e w7 ⟨A7, c7, rfl, n7, b7⟩
 clear yB3_6_0_0 yB3_6_0_1 yB3_6_0_2
 go_wp2_with fail
 (with_reducible refine (dCutE (TT.out.bel (g0.trans (((((((((Bel.refl _).alloc (.cells #[.bool false, .slice none 0 0, .int .i64 0] 37)).trans b1).trans b2).trans b3).trans b4).trans b5).trans b6).trans b7))) n7 (by omega) (by omega) hnn HR.out HW.out).mono ?_); rintro e w8 ⟨A8, c8, rfl, n8, b8⟩
 have KRz := Ho.mk ((KR.out.bel (((((((((Bel.refl _).trans b1).trans b2).trans b3).trans b4).trans b5).trans b6).trans b7).trans b8)))
 have yr0 := KRz.out.cell (i := 0) rfl
 have zr0 := KRz.out.free 0
 have yr1 := KRz.out.cell (i := 1) rfl
 have zr1 := KRz.out.free 1
 have yr2 := KRz.out.cell (i := 2) rfl
 have zr2 := KRz.out.free 2
 have BZ := Ho.mk (g0.trans ((((((((((Bel.refl _).alloc (.cells #[.bool false, .slice none 0 0, .int .i64 0] 37)).trans b1).trans b2).trans b3).trans b4).trans b5).trans b6).trans b7).trans b8))
 have HZ0 := Ho.mk n8
 go_wp2
 exact I0.gives_endD (fn := Tryz.f218) rfl rfl BZ.out (by omega) KRz.out (HZ0.out.mono (by omega) (by omega))
theorem root_val {v : Int} {n kN : Nat} {q : Int} (up : Bool) (h1 : rootK (dm v) (de v) n = kN) (h2 : (de v - kN) / 2 = q) :
  rootV v n up = cutV (sc false (rootN (dm v * 2 ^ kN) * 2 ^ 1 + (if rootN (dm v * 2 ^ kN) * rootN (dm v * 2 ^ kN) < (dm v * 2 ^ kN) then 1 else 0)) (q - 1)) n up := by
 unfold rootV rootT
 rw [h1, h2, Nat.pow_one, Nat.mul_comm 2]
theorem root_cases {v : Int} {L U n : Nat} (hw : Wd v L U) (hL : L ≤ 3000) (hU : U ≤ 3000) (hn : n ≤ 3000) : (blen (dm v) : Int) ≤ 6000 ∧ -3000 ≤ de v ∧ de v ≤ 3000 := by
 have h1 := blen_le.2 (hw.m_lt (by unfold K; omega))
 have h2 := hw.e_ge
 have h3 := hw.e_le
 omega
theorem cmp_root (M : Nat) : (rootN M * rootN M < M ∧ cmpI (rootN M * rootN M : Nat) (M : Nat) = -1) ∨ (rootN M * rootN M = M ∧ cmpI (rootN M * rootN M : Nat) (M : Nat) = 0) := by
 rcases Nat.lt_or_eq_of_le (rootN_le M) with h | h
 ·exact .inl ⟨h, cmpI_lt (by omega)⟩
 ·exact .inr ⟨h, cmpI_eq (by omega)⟩
theorem dRootV {A0 : Option Addr} {c0 : Nat} {v : Int} {n : Nat} {nn r : Int} {up : Bool} {L0 U0 L U : Nat} (w : World) (T : Tab w) (p0 : Dv w A0 c0 v L0 U0) (hL : L0 ≤ 3000) (hU : U0 ≤ 3000) (hnn : (n : Int) = nn) (hn : n ≤ 3000) (hr : rootV v n up = r) (hW : Wd r L U) :
  Calls Tryz.prog 218 #[.agg #[.bool (dneg v), .slice A0 (digs (dm v)).length c0, .int .i64 (de v)], .int .i64 nn, .bool up] w (MakesD w r L U) := by
 have p := p0.mono hL hU
 obtain ⟨b1, e0, e1⟩ := root_cases p0.wd hL hU hn
 obtain ⟨bl, hbl⟩ : ∃ bl : Int, (blen (dm v) : Int) = bl := ⟨_, rfl⟩
 have hb0 : 0 ≤ bl := by omega
 have key : ∀ k0 : Int, k0 = max (2 * nn + 4 - bl) 0 → ∃ (kN : Nat) (q : Int), (kN : Int) = k0 + (de v - k0) % 2 ∧ q = (de v - (k0 + (de v - k0) % 2)).tdiv 2 ∧ rootK (dm v) (de v) n = kN ∧ (de v - kN) / 2 = q ∧ -4600 ≤ q ∧ q ≤ 1500 := by
  intro k0 hk0
  obtain ⟨z1, z2, z3⟩ := root_parts hnn hbl rfl hk0 rfl rfl
  exact ⟨rootK (dm v) (de v) n, _, z1, rfl, rfl, z2, by rw [← z2]; omega, by rw [← z2]; omega⟩
 rcases Int.lt_or_le (2 * nn + 4 - bl) 0 with hz | hz
 ·obtain ⟨kN, q, k1, k2, k3, k4, q0, q1⟩ := key 0 (by omega)
  rw [Int.zero_add, Int.sub_zero] at k1 k2
  rw [root_val up k3 k4] at hr
  have ha := and_one (de v)
  rcases cmp_root (dm v * 2 ^ kN) with ⟨c1, c2⟩ | ⟨c1, c2⟩
  ·rw [if_pos c1] at hr
   exact droot_zl w T p hnn hn hbl hb0 (by omega) hz ha (by omega) (by omega) k1 k2.symm q0 q1 c2 (by omega) hr hW
  ·rw [if_neg (by omega), Nat.add_zero] at hr
   exact droot_ze w T p hnn hn hbl hb0 (by omega) hz ha (by omega) (by omega) k1 k2.symm q0 q1 c2 (by omega) hr hW
 ·obtain ⟨kN, q, k1, k2, k3, k4, q0, q1⟩ := key (2 * nn + 4 - bl) (by omega)
  rw [root_val up k3 k4] at hr
  have ha := and_one (de v - (2 * nn + 4 - bl))
  rcases cmp_root (dm v * 2 ^ kN) with ⟨c1, c2⟩ | ⟨c1, c2⟩
  ·rw [if_pos c1] at hr
   exact droot_bl w T p hnn hn hbl hb0 (by omega) hz ha (by omega) (by omega) k1 k2.symm q0 q1 c2 (by omega) hr hW
  ·rw [if_neg (by omega), Nat.add_zero] at hr
   exact droot_be w T p hnn hn hbl hb0 (by omega) hz ha (by omega) (by omega) k1 k2.symm q0 q1 c2 (by omega) hr hW
end I2
end Go.Proofs.YtalbgklfhabnkaaGreatDoor
