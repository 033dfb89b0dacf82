/-
  Plain laws: dyadic numbers as whole numbers at one scale.
-/
import Derived.Test.YtnmjnjhijcnbcaaDoorPl
set_option linter.unusedVariables false
namespace Go.Proofs.YtnmjnjhijcnbcaaDoor.Dp
open Go Go.RowKit Go.Proofs.YtnmjnjhijcnbcaaDoor.Ow Go.Proofs.YtnmjnjhijcnbcaaDoor.Pl

/-! ### how often two goes into a natural -/
def tz (x : Nat) : Nat := if h : x = 0 then 0 else if x % 2 = 1 then 0 else tz (x / 2) + 1
termination_by x
decreasing_by omega
theorem tz_zero : tz 0 = 0 := by unfold tz; simp
theorem tz_odd {x : Nat} (h : x % 2 = 1) : tz x = 0 := by unfold tz; rw [dif_neg (by omega), if_pos h]
theorem tz_even {x : Nat} (h0 : x ≠ 0) (h : x % 2 = 0) : tz x = tz (x / 2) + 1 := by rw [tz]; rw [dif_neg h0, if_neg (by omega)]
def odd (x : Nat) : Nat := x / 2 ^ tz x
theorem odd_zero : odd 0 = 0 := by unfold odd; rw [Nat.zero_div]
theorem odd_mul (x : Nat) : odd x * 2 ^ tz x = x ∧ (x ≠ 0 → odd x % 2 = 1) := by
  induction x using Nat.strongRecOn with
  | _ x ih =>
    by_cases h0 : x = 0
    · subst h0; rw [odd_zero]; simp
    · by_cases h : x % 2 = 1
      · unfold odd; rw [tz_odd h]; simp [h]
      · have h2 : x % 2 = 0 := by omega
        obtain ⟨a, b⟩ := ih (x / 2) (by omega)
        have e : odd x = odd (x / 2) := by
          unfold odd; rw [tz_even h0 h2, Nat.pow_succ, Nat.mul_comm, ← Nat.div_div_eq_div_mul]
        refine ⟨?_, fun _ => by rw [e]; exact b (by omega)⟩
        rw [e, tz_even h0 h2, Nat.pow_succ, ← Nat.mul_assoc, a]; omega
theorem odd_eq (x : Nat) : odd x * 2 ^ tz x = x := (odd_mul x).1
theorem odd_odd {x : Nat} (h : x ≠ 0) : odd x % 2 = 1 := (odd_mul x).2 h
theorem odd_pos {x : Nat} (h : x ≠ 0) : odd x ≠ 0 := fun e => by have := odd_odd h; omega
theorem odd_le (x : Nat) : odd x ≤ x := Nat.div_le_self _ _
theorem tz_shift {x : Nat} (k : Nat) (h : x ≠ 0) : tz (x * 2 ^ k) = tz x + k := by
  induction k with
  | zero => simp
  | succ k ih =>
    have hp : 0 < x * 2 ^ k := Nat.mul_pos (by omega) (Nat.two_pow_pos k)
    rw [Nat.pow_succ, ← Nat.mul_assoc, tz_even (by omega) (by omega), Nat.mul_div_cancel _ (by decide), ih]; omega
theorem odd_shift {x : Nat} (k : Nat) : odd (x * 2 ^ k) = odd x := by
  by_cases h : x = 0
  · subst h; simp
  · unfold odd
    rw [tz_shift k h, Nat.add_comm, Nat.pow_add, ← Nat.div_div_eq_div_mul, Nat.mul_div_cancel _ (Nat.two_pow_pos k)]
theorem odd_of {m k : Nat} (h : m % 2 = 1) : odd (m * 2 ^ k) = m ∧ tz (m * 2 ^ k) = k := by
  have h0 : m ≠ 0 := by omega
  rw [odd_shift, tz_shift k h0, tz_odd h]
  refine ⟨?_, by omega⟩
  unfold odd; rw [tz_odd h]; simp
theorem odd_self {m : Nat} (h : m % 2 = 1) : odd m = m := by have := (odd_of (k := 0) h).1; simpa using this
theorem odd_lt {x k : Nat} (h : x < 2 ^ k) : odd x < 2 ^ k := Nat.lt_of_le_of_lt (odd_le x) h

/-! ### the scale -/
/-- Where the scale begins: two to so much below 1. -/
def K : Nat := 100000
/-- A number's sign, natural, power. -/
def dneg (v : Int) : Bool := decide (v < 0)
def dm (v : Int) : Nat := odd v.natAbs
def de (v : Int) : Int := if v = 0 then 0 else (tz v.natAbs : Int) - K
/-- The number of a sign, a natural, a power. -/
def sc (neg : Bool) (x : Nat) (e : Int) : Int := (if neg then -1 else 1) * ((x * 2 ^ (e + K).toNat : Nat) : Int)
theorem sc_zero (neg : Bool) (e : Int) : sc neg 0 e = 0 := by unfold sc; simp
theorem sc_abs (neg : Bool) (x : Nat) (e : Int) : (sc neg x e).natAbs = x * 2 ^ (e + K).toNat := by
  unfold sc; cases neg <;> simp [Int.natAbs_mul]
theorem sc_neg {neg : Bool} {x : Nat} {e : Int} (h : x ≠ 0) : dneg (sc neg x e) = neg := by
  have hp : 0 < x * 2 ^ (e + K).toNat := Nat.mul_pos (by omega) (Nat.two_pow_pos _)
  unfold dneg sc
  generalize x * 2 ^ (e + K).toNat = y at hp
  cases neg
  · exact decide_eq_false (by rw [if_neg (by decide)]; omega)
  · exact decide_eq_true (by rw [if_pos rfl]; omega)
theorem sc_ne {neg : Bool} {x : Nat} {e : Int} (h : x ≠ 0) : sc neg x e ≠ 0 := fun c => by
  have hp : 0 < x * 2 ^ (e + K).toNat := Nat.mul_pos (by omega) (Nat.two_pow_pos _)
  have := sc_abs neg x e
  rw [c] at this; simp only [Int.natAbs_zero] at this; omega
theorem sc_m (neg : Bool) (x : Nat) (e : Int) : dm (sc neg x e) = odd x := by
  unfold dm; rw [sc_abs, odd_shift]
theorem sc_e {neg : Bool} {x : Nat} {e : Int} (h : x ≠ 0) (he : -(K : Int) ≤ e) : de (sc neg x e) = e + tz x := by
  unfold de; rw [if_neg (sc_ne h), sc_abs, tz_shift _ h]; omega
theorem sc_self (v : Int) : sc (dneg v) (dm v) (de v) = v := by
  by_cases h : v = 0
  · subst h; show sc _ (odd 0) _ = 0; rw [odd_zero, sc_zero]
  · have e : (de v + K).toNat = tz v.natAbs := by unfold de; rw [if_neg h]; omega
    unfold sc
    rw [e]
    show _ * ((odd v.natAbs * 2 ^ tz v.natAbs : Nat) : Int) = v
    rw [odd_eq]
    unfold dneg
    by_cases hn : v < 0
    · rw [decide_eq_true hn, if_pos rfl]; omega
    · rw [decide_eq_false hn, if_neg (by decide)]; omega
theorem d_inj {u v : Int} (h1 : dneg u = dneg v) (h2 : dm u = dm v) (h3 : de u = de v) : u = v := by
  rw [← sc_self u, ← sc_self v, h1, h2, h3]
theorem dm_zero {v : Int} : dm v = 0 ↔ v = 0 := by
  constructor
  · intro h
    have := odd_eq v.natAbs
    unfold dm at h
    rw [h, Nat.zero_mul] at this; omega
  · intro h; subst h; exact odd_zero
theorem de_zero : de 0 = 0 := rfl
theorem dneg_zero : dneg 0 = false := rfl
theorem dm_odd {v : Int} (h : v ≠ 0) : dm v % 2 = 1 := odd_odd (by omega)
theorem de_ge {v : Int} : -(K : Int) ≤ de v := by
  unfold de; split
  · unfold K; omega
  · omega
/-- The same number, its power brought down. -/
theorem sc_down (neg : Bool) (x k : Nat) (e : Int) (h : -(K : Int) ≤ e) : sc neg (x * 2 ^ k) e = sc neg x (e + k) := by
  unfold sc
  rw [show (e + k + K).toNat = k + (e + K).toNat from by omega, Nat.pow_add, Nat.mul_assoc]
theorem sc_odd (neg : Bool) (x : Nat) (e : Int) (h : -(K : Int) ≤ e) : sc neg (odd x) (e + tz x) = sc neg x e := by
  rw [← sc_down _ _ _ _ h, odd_eq]
theorem sc_add (neg : Bool) (x y : Nat) (e : Int) : sc neg (x + y) e = sc neg x e + sc neg y e := by
  unfold sc; rw [Nat.add_mul, Int.natCast_add, Int.mul_add]
theorem sc_sub (neg : Bool) (x y : Nat) (e : Int) (h : y ≤ x) : sc neg (x - y) e = sc neg x e + sc (!neg) y e := by
  unfold sc
  rw [Nat.sub_mul, Int.natCast_sub (Nat.mul_le_mul_right _ h), Int.mul_sub]
  cases neg <;> simp <;> omega
theorem sc_flip (neg : Bool) (x : Nat) (e : Int) : sc (!neg) x e = - sc neg x e := by
  unfold sc; cases neg <;> simp
theorem sc_mul (a b : Bool) (x y : Nat) (e f : Int) (he : -(K : Int) ≤ e) (hf : -(K : Int) ≤ f) (h : -(K : Int) ≤ e + f) :
    sc (a != b) (x * y) (e + f) * 2 ^ K = sc a x e * sc b y f := by
  have e1 : x * y * 2 ^ (e + f + K).toNat * 2 ^ K = (x * 2 ^ (e + K).toNat) * (y * 2 ^ (f + K).toNat) := by
    rw [Nat.mul_assoc (x * y), ← Nat.pow_add, show (e + f + K).toNat + K = (e + K).toNat + (f + K).toNat from by omega, Nat.pow_add]
    ac_rfl
  have e2 : ((x * y * 2 ^ (e + f + K).toNat : Nat) : Int) * 2 ^ K = ((x * 2 ^ (e + K).toNat : Nat) : Int) * ((y * 2 ^ (f + K).toNat : Nat) : Int) := by
    rw [← Int.natCast_mul (x * 2 ^ (e + K).toNat), ← e1, Int.natCast_mul _ (2 ^ K), Int.natCast_pow]; rfl
  unfold sc
  generalize ((x * y * 2 ^ (e + f + K).toNat : Nat) : Int) = p at e2 ⊢
  generalize ((x * 2 ^ (e + K).toNat : Nat) : Int) = q at e2 ⊢
  generalize ((y * 2 ^ (f + K).toNat : Nat) : Int) = r at e2 ⊢
  cases a <;> cases b <;> simp [e2, Int.neg_mul, Int.mul_neg]
theorem sc_shift (neg : Bool) (x : Nat) (e : Int) (k : Nat) (h : -(K : Int) ≤ e) : sc neg x (e + k) = sc neg x e * 2 ^ k := by
  unfold sc
  rw [show (e + k + K).toNat = (e + K).toNat + k from by omega, Nat.pow_add, ← Nat.mul_assoc, Int.natCast_mul _ (2 ^ k), Int.natCast_pow, Int.mul_assoc]; rfl
/-- How far up and down a number reaches. -/
structure Wd (v : Int) (L U : Nat) : Prop where
  low : v = 0 ∨ -(L : Int) ≤ de v
  up : v.natAbs < 2 ^ (K + U)
theorem Wd.zero (L U : Nat) : Wd 0 L U := ⟨.inl rfl, Nat.two_pow_pos _⟩
theorem Wd.mono {v : Int} {L U L' U' : Nat} (h : Wd v L U) (h1 : L ≤ L') (h2 : U ≤ U') : Wd v L' U' :=
  ⟨h.low.imp id (by omega), Nat.lt_of_lt_of_le h.up (Nat.pow_le_pow_right (by decide) (by omega))⟩
theorem Wd.e_le {v : Int} {L U : Nat} (h : Wd v L U) : de v ≤ U := by
  by_cases h0 : v = 0
  · subst h0; rw [de_zero]; omega
  · unfold de; rw [if_neg h0]
    have e := odd_eq v.natAbs
    have h1 : 2 ^ tz v.natAbs ≤ v.natAbs := by
      have hp := odd_pos (x := v.natAbs) (by omega)
      have := Nat.mul_le_mul_right (2 ^ tz v.natAbs) (show 1 ≤ odd v.natAbs by omega)
      omega
    have h2 := Nat.lt_of_le_of_lt h1 h.up
    have h3 := (Nat.pow_lt_pow_iff_right (by decide : 1 < 2)).1 h2
    omega
theorem Wd.e_ge {v : Int} {L U : Nat} (h : Wd v L U) : -(L : Int) ≤ de v := by
  rcases h.low with h0 | h0
  · subst h0; rw [de_zero]; omega
  · exact h0
theorem Wd.m_lt {v : Int} {L U : Nat} (h : Wd v L U) (hL : L ≤ K) : dm v < 2 ^ (L + U) := by
  by_cases h0 : v = 0
  · subst h0; show odd 0 < _; rw [odd_zero]; exact Nat.two_pow_pos _
  · have e := odd_eq v.natAbs
    have h1 := h.e_ge
    unfold de at h1; rw [if_neg h0] at h1
    have h2 : 2 ^ (K - L) ≤ 2 ^ tz v.natAbs := Nat.pow_le_pow_right (by decide) (by omega)
    have h3 : dm v * 2 ^ (K - L) ≤ v.natAbs := by
      have := Nat.mul_le_mul_left (odd v.natAbs) h2
      rw [e] at this; exact this
    have h4 := Nat.lt_of_le_of_lt h3 h.up
    rw [show K + U = (L + U) + (K - L) from by omega, Nat.pow_add] at h4
    exact Nat.lt_of_mul_lt_mul_right h4
theorem Wd.neg {v : Int} {L U : Nat} (h : Wd v L U) : Wd (-v) L U := by
  refine ⟨?_, by rw [Int.natAbs_neg]; exact h.up⟩
  rcases h.low with h0 | h0
  · exact .inl (by omega)
  · by_cases hv : v = 0
    · exact .inl (by omega)
    · right; unfold de at h0 ⊢; rw [if_neg hv] at h0; rw [if_neg (by omega), Int.natAbs_neg]; exact h0
end Go.Proofs.YtnmjnjhijcnbcaaDoor.Dp
