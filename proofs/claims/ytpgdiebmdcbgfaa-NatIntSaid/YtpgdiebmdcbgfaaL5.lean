/-
  The functions of layer 1, in one shape, continued: whatever the answer.
-/
import Derived.Test.YtpgdiebmdcbgfaaL3
set_option linter.unusedVariables false
namespace Go.Proofs.Ytpgdiebmdcbgfaa.L5
open Go.RowKit Go.Proofs.Ytpgdiebmdcbgfaa Go.Proofs.Ytpgdiebmdcbgfaa.Ow Go.Proofs.Ytpgdiebmdcbgfaa.Pl Go.Proofs.Ytpgdiebmdcbgfaa.L2

/-- Whether the difference is a natural. -/
def subB (x y : Nat) : Bool := decide (y ≤ x)
/-- A natural as a number, where it is one. -/
def intV (x : Nat) : Int := if blen x ≤ 62 then x else 0
def intB (x : Nat) : Bool := decide (blen x ≤ 62)
def MakesB (w : World) (b : Bool) (x n : Nat) (e : Ending) (w' : World) : Prop := ∃ r, e = .returned (.tuple #[r, .bool b]) ∧ Nm w' r x n ∧ Bel w w'
/-- A number is told of which only this is known. -/
def TellsP (w : World) (p : Int → Prop) (e : Ending) (w' : World) : Prop := ∃ c : Int, p c ∧ e = .returned (.int .i64 c) ∧ Bel w w'
theorem shift_rest (x k : Nat) : x - x / 2 ^ k * 2 ^ k < 1 * 2 ^ k := by
  have := Nat.div_add_mod x (2 ^ k)
  have h := Nat.mod_lt x (Nat.two_pow_pos k)
  rw [Nat.mul_comm] at this
  omega
theorem blen_p2 (k : Nat) : blen (1 * 2 ^ k) = k + 1 := by
  rw [Nat.one_mul]; exact blen_eq (Nat.le_refl _) (Nat.pow_lt_pow_right (by decide) (by omega))
theorem blen_shl {x : Nat} (k : Nat) (h : x ≠ 0) : blen (x * 2 ^ k) = blen x + k := by
  have := blen_shift (r := 0) h (Nat.two_pow_pos k)
  rwa [Nat.add_zero] at this
variable {w : World} {u v : Value} {x y a b : Nat}

theorem nSubAny (h : Nm w u x a) (k : Nm w v y b) (ha : a ≤ 20000) : Calls Try.prog 16 #[u, v] w (MakesB w (subB x y) (x - y) a) := by
  rcases Nat.lt_or_ge x y with hxy | hxy
  · refine (nSubNo h k hxy).mono ?_
    rintro e w' ⟨rfl, hb⟩
    refine ⟨_, by rw [show subB x y = false from decide_eq_false (by omega)], ?_, hb⟩
    rw [show x - y = 0 from by omega]
    exact ⟨(Nm.nil w' 0).out, by rw [digs_zero]; simp⟩
  · refine (nSub h k ha hxy).mono ?_
    rintro e w' ⟨r, rfl, hr, hb⟩
    exact ⟨r, by rw [show subB x y = true from decide_eq_true hxy], hr, hb⟩
theorem nIntAny (h : Nm w u x a) : Calls Try.prog 18 #[u] w (Tells w (.tuple #[.int .i64 (intV x), .bool (intB x)])) := by
  by_cases hx : blen x ≤ 62
  · have := nInt h hx
    rw [show intV x = (x : Int) from if_pos hx, show intB x = true from decide_eq_true hx]
    exact this
  · have := nIntNo h (Nat.lt_of_not_le hx)
    rw [show intV x = 0 from if_neg hx, show intB x = false from decide_eq_false hx]
    exact this
theorem nIntV (h : Nm w u x a) (hx : blen x ≤ 62) {i : Int} (hi : (x : Int) = i) : Calls Try.prog 18 #[u] w (Tells w (.tuple #[.int .i64 i, .bool true])) := by
  subst hi; exact nInt h hx
theorem nCmpAny (h : Nm w u x a) (k : Nm w v y b) : Calls Try.prog 24 #[u, v] w (Tells w (.int .i64 (cmpI x y))) := by
  rcases Nat.lt_trichotomy x y with hxy | hxy | hxy
  · rw [cmpI_lt (by omega)]; exact nCmpLt h k hxy
  · rw [cmpI_eq (by omega)]; exact nCmpEq h k hxy
  · rw [cmpI_gt (by omega)]; exact nCmpGt h k hxy
theorem nLenI (h : Nm w u x a) {m : Int} (hm : ((blen x : Nat) : Int) = m) : Calls Try.prog 26 #[u] w (Tells w (.int .i64 m)) := by
  subst hm; exact nLen h rfl
theorem nCmpLe (h : Nm w u x a) (k : Nm w v y b) (hxy : x ≤ y) : Calls Try.prog 24 #[u, v] w (TellsP w (fun c => -1 ≤ c ∧ c ≤ 0)) := by
  refine (nCmpAny h k).mono ?_
  rintro e w' ⟨rfl, hb⟩
  refine ⟨_, ?_, rfl, hb⟩
  rcases Nat.lt_or_eq_of_le hxy with h1 | h1
  · rw [cmpI_lt (by omega)]; decide
  · rw [cmpI_eq (by omega)]; decide
theorem rSubAny (h : Nm w u x a) (k : Nm w v y b) (ha : a ≤ 20000) : Calls Try.prog 17 #[u, v] w (MakesB w (subB x y) (x - y) a) := by
  rcases Nat.lt_or_ge x y with hxy | hxy
  · refine (rSubNo h k hxy).mono ?_
    rintro e w' ⟨rfl, hb⟩
    refine ⟨_, by rw [show subB x y = false from decide_eq_false (by omega)], ?_, hb⟩
    rw [show x - y = 0 from by omega]
    exact ⟨(Nm.nil w' 0).out, by rw [digs_zero]; simp⟩
  · refine (rSub h k ha hxy).mono ?_
    rintro e w' ⟨r, rfl, hr, hb⟩
    exact ⟨r, by rw [show subB x y = true from decide_eq_true hxy], hr, hb⟩
theorem rIntAny (h : Nm w u x a) : Calls Try.prog 19 #[u] w (Tells w (.tuple #[.int .i64 (intV x), .bool (intB x)])) := by
  by_cases hx : blen x ≤ 62
  · have := rInt h hx
    rw [show intV x = (x : Int) from if_pos hx, show intB x = true from decide_eq_true hx]
    exact this
  · have := rIntNo h (Nat.lt_of_not_le hx)
    rw [show intV x = 0 from if_neg hx, show intB x = false from decide_eq_false hx]
    exact this
theorem rIntV (h : Nm w u x a) (hx : blen x ≤ 62) {i : Int} (hi : (x : Int) = i) : Calls Try.prog 19 #[u] w (Tells w (.tuple #[.int .i64 i, .bool true])) := by
  subst hi; exact rInt h hx
theorem rCmpAny (h : Nm w u x a) (k : Nm w v y b) : Calls Try.prog 25 #[u, v] w (Tells w (.int .i64 (cmpI x y))) := by
  rcases Nat.lt_trichotomy x y with hxy | hxy | hxy
  · rw [cmpI_lt (by omega)]; exact rCmpLt h k hxy
  · rw [cmpI_eq (by omega)]; exact rCmpEq h k hxy
  · rw [cmpI_gt (by omega)]; exact rCmpGt h k hxy
theorem rLenI (h : Nm w u x a) {m : Int} (hm : ((blen x : Nat) : Int) = m) : Calls Try.prog 27 #[u] w (Tells w (.int .i64 m)) := by
  subst hm; exact rLen h rfl
theorem rCmpLe (h : Nm w u x a) (k : Nm w v y b) (hxy : x ≤ y) : Calls Try.prog 25 #[u, v] w (TellsP w (fun c => -1 ≤ c ∧ c ≤ 0)) := by
  refine (rCmpAny h k).mono ?_
  rintro e w' ⟨rfl, hb⟩
  refine ⟨_, ?_, rfl, hb⟩
  rcases Nat.lt_or_eq_of_le hxy with h1 | h1
  · rw [cmpI_lt (by omega)]; decide
  · rw [cmpI_eq (by omega)]; decide
end Go.Proofs.Ytpgdiebmdcbgfaa.L5
