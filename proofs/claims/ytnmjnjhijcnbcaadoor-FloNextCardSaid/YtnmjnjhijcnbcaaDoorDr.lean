/-
  Plain laws of dyadic numbers: cuts.
-/
import Derived.Test.YtnmjnjhijcnbcaaDoorDq
set_option linter.unusedVariables false
namespace Go.Proofs.YtnmjnjhijcnbcaaDoor.Dp
open Go Go.RowKit Go.Proofs.YtnmjnjhijcnbcaaDoor.Ow Go.Proofs.YtnmjnjhijcnbcaaDoor.Pl

/-- A number cut down, or up, to so many bits. -/
def cutX (v : Int) (k : Nat) (up : Bool) : Nat := dm v / 2 ^ k + (if up = dneg v then 0 else 1)
def cutV (v : Int) (n : Nat) (up : Bool) : Int :=
  if blen (dm v) ≤ n then v else sc (dneg v) (cutX v (blen (dm v) - n) up) (de v + (blen (dm v) - n : Nat))
theorem sc_lt {a b : Nat} (e : Int) (h : a < b) : sc false a e < sc false b e ∧ sc true b e < sc true a e := by
  have h1 : a * 2 ^ (e + K).toNat < b * 2 ^ (e + K).toNat := Nat.mul_lt_mul_of_pos_right h (Nat.two_pow_pos _)
  unfold sc
  generalize a * 2 ^ (e + K).toNat = p at h1 ⊢
  generalize b * 2 ^ (e + K).toNat = q at h1 ⊢
  simp only [if_true, Bool.false_eq_true, if_false]
  omega
theorem cut_x {v : Int} {n k : Nat} {up : Bool} (hk : blen (dm v) = n + k) : cutX v k up ≤ 2 ^ n := by
  have h := blen_lt (dm v)
  rw [hk, Nat.pow_add] at h
  have := Nat.div_lt_of_lt_mul (show dm v < 2 ^ k * 2 ^ n by rw [Nat.mul_comm]; exact h)
  unfold cutX; split <;> omega
theorem cut_len (v : Int) (n : Nat) (up : Bool) (hn : 1 ≤ n) : blen (dm (cutV v n up)) ≤ n := by
  unfold cutV
  split
  · assumption
  · rename_i h
    rw [sc_m]
    apply blen_le.2
    have hx := cut_x (v := v) (n := n) (k := blen (dm v) - n) (up := up) (by omega)
    generalize cutX v (blen (dm v) - n) up = x at hx
    rcases Nat.lt_or_eq_of_le hx with h1 | h1
    · exact odd_lt h1
    · have : odd x = 1 := by
        rw [h1]; have := (odd_of (m := 1) (k := n) rfl).1; rwa [Nat.one_mul] at this
      rw [this]
      exact Nat.one_lt_two_pow (by omega)
theorem Wd.top {v : Int} {L U : Nat} (h : Wd v L U) (h0 : v ≠ 0) : de v + blen (dm v) ≤ U := by
  have hm : dm v ≠ 0 := fun e => h0 (dm_zero.1 e)
  have h1 := blen_low hm
  have e := odd_eq v.natAbs
  have h2 : 2 ^ (blen (dm v) - 1) * 2 ^ tz v.natAbs ≤ v.natAbs := by
    have := Nat.mul_le_mul_right (2 ^ tz v.natAbs) h1
    rw [show dm v * 2 ^ tz v.natAbs = v.natAbs from e] at this; exact this
  rw [← Nat.pow_add] at h2
  have h3 := Nat.lt_of_le_of_lt h2 h.up
  have h4 := (Nat.pow_lt_pow_iff_right (by decide : 1 < 2)).1 h3
  have h5 : 1 ≤ blen (dm v) := by rw [blen_pos hm]; omega
  unfold de; rw [if_neg h0]
  omega
theorem Wd.cut {v : Int} {L U : Nat} (h : Wd v L U) (n : Nat) (up : Bool) (hL : L ≤ K) : Wd (cutV v n up) L (U + 1) := by
  unfold cutV
  split
  · exact h.mono (Nat.le_refl _) (by omega)
  · rename_i hn
    have hv : v ≠ 0 := fun e => hn (by subst e; show blen (odd 0) ≤ n; rw [odd_zero]; exact Nat.zero_le _)
    have hx := cut_x (v := v) (n := n) (k := blen (dm v) - n) (up := up) (by omega)
    have ht := h.top hv
    have hl := h.e_ge
    refine wd_sc _ (b := n + 1) (Nat.lt_of_le_of_lt hx (Nat.pow_lt_pow_right (by decide) (by omega))) (by omega) (by omega) hL
theorem cut_low {v : Int} {n k : Nat} (hk : blen (dm v) = n + k) (hk1 : 1 ≤ k) :
    cutV v n false < v ∧ v < cutV v n true ∧ cutV v n true + -cutV v n false = sc false 1 (de v + k) := by
  have hv : v ≠ 0 := fun e => by
    subst e; rw [show dm 0 = odd 0 from rfl, odd_zero, blen_zero] at hk; omega
  have ho := dm_odd hv
  have hge := de_ge (v := v)
  have hkk : blen (dm v) - n = k := by omega
  unfold cutV
  rw [if_neg (by omega), if_neg (by omega), hkk]
  have hs := sc_self v
  have hd := Nat.div_add_mod (dm v) (2 ^ k)
  have hp := Nat.two_pow_pos k
  have hr := Nat.mod_lt (dm v) hp
  have hr0 : 0 < dm v % 2 ^ k := by
    rcases Nat.eq_zero_or_pos (dm v % 2 ^ k) with h | h
    · exfalso
      rw [h, Nat.add_zero, show k = (k - 1) + 1 from by omega, Nat.pow_succ] at hd
      have : dm v % 2 = 0 := by rw [← hd, Nat.mul_assoc, Nat.mul_left_comm, Nat.mul_mod_right]
      omega
    · exact h
  unfold cutX
  generalize dm v = m at *
  generalize de v = e at *
  generalize dneg v = s at *
  rw [← sc_down _ _ _ _ hge, ← sc_down _ _ _ _ hge, ← sc_down _ _ _ _ hge, ← hs]
  have l1 : m / 2 ^ k * 2 ^ k < m := by rw [Nat.mul_comm]; omega
  have l2 : m < (m / 2 ^ k + 1) * 2 ^ k := by rw [Nat.add_mul, Nat.mul_comm]; omega
  have a1 := sc_lt e l1
  have a2 := sc_lt e l2
  have a3 := sc_add false (m / 2 ^ k * 2 ^ k) (1 * 2 ^ k) e
  rw [← Nat.add_mul] at a3
  have a4 := sc_flip false ((m / 2 ^ k + 1) * 2 ^ k) e
  have a5 := sc_flip false (m / 2 ^ k * 2 ^ k) e
  cases s
  · rw [show (if false = false then (0 : Nat) else 1) = 0 from rfl, show (if true = false then (0 : Nat) else 1) = 1 from rfl]
    simp only [Nat.add_zero]
    rw [show (!false) = true from rfl] at a4 a5
    refine ⟨a1.1, a2.1, by omega⟩
  · rw [show (if false = true then (0 : Nat) else 1) = 1 from rfl, show (if true = true then (0 : Nat) else 1) = 0 from rfl]
    simp only [Nat.add_zero]
    rw [show (!false) = true from rfl] at a4 a5
    refine ⟨a2.2, a1.2, by omega⟩
end Go.Proofs.YtnmjnjhijcnbcaaDoor.Dp
