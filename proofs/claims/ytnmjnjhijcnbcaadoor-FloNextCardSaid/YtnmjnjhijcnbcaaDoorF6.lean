/-
  More contracts and plain laws for layer 2's laws.
-/
import Derived.Test.YtnmjnjhijcnbcaaDoorF0
set_option linter.unusedVariables false
namespace Go.Proofs.YtnmjnjhijcnbcaaDoor.F6
open Go Go.RowKit Go.Proofs.YtnmjnjhijcnbcaaDoor Go.Proofs.YtnmjnjhijcnbcaaDoor.Ow Go.Proofs.YtnmjnjhijcnbcaaDoor.Pl Go.Proofs.YtnmjnjhijcnbcaaDoor.Dp Go.Proofs.YtnmjnjhijcnbcaaDoor.Dt Go.Proofs.YtnmjnjhijcnbcaaDoor.D3 Go.Proofs.YtnmjnjhijcnbcaaDoor.E7 Go.Proofs.YtnmjnjhijcnbcaaDoor.F1

section
variable {w : World} {A B : Option Addr} {c d : Nat} {u v : Int} {L U L' U' : Nat}
theorem rRight' (h : Dv w A c u L U) (hL : L ≤ 6000) (hU : U ≤ 6000) (hl : (digs (dm u)).length ≤ 60) :
    Calls Tryd.prog 17 #[.agg #[.bool (dneg u), .slice A (digs (dm u)).length c, .int .i64 (de u)]] w (Tells w (.bool true)) := by
  have := refRight_calls A c (dneg u) (digs (dm u)) (de u) w h.rd
  rwa [num_right hl (by have := h.wd.e_ge; omega) (by have := h.wd.e_le; omega)] at this
theorem dMulLit (T : Tab w) (h : Dv w A c u L U) {n : Bool} {x : Nat} {xi : Int} (k : Rd w B [xi]) {e : Int} (hxi : (x : Int) = xi) (hx : x % 2 = 1) (hx2 : x < 16777216) (h1 : L + U ≤ 10000) (l1 : -(L' : Int) ≤ e) (l2 : e + 24 ≤ U') (h2 : L' + U' ≤ 10000) (hd : 1 ≤ d) :
    Calls Tryd.prog 22 #[.agg #[.bool (dneg u), .slice A (digs (dm u)).length c, .int .i64 (de u)], .agg #[.bool n, .slice B 1 d, .int .i64 e]] w (MakesD w (mulD u (sc n x e)) (L + L') (U + U')) := by
  obtain ⟨q, e1, e2, e3⟩ := F0.litDv (L := L') (U := U') (n := n) (e := e) k hxi hx hx2 l1 l2 (by omega) hd
  have := dMul T h q h1 h2
  rw [e1, e2, e3] at this
  exact this
theorem rRightRow (n : Bool) (l : List Int) (e : Int) (h : Rd w A l) {b : Bool} (hb : rightB n l e = b) :
    Calls Tryd.prog 17 #[.agg #[.bool n, .slice A l.length c, .int .i64 e]] w (Tells w (.bool b)) := by
  have := refRight_calls A c n l e w h
  rwa [hb] at this
theorem wLenr (h : Dv w A c u L U) {r : Int} (hr : (blen (dm u) : Int) = r) : Calls Tryd.prog 38 #[.slice A (digs (dm u)).length c] w (Tells w (.int .i64 r)) := by
  subst hr; exact wLen h
theorem dCmp0r (T : Tab w) (h : Dv w A c u L U) (h1 : L + U ≤ 20000) {r : Int} (hr : sgn u = r) :
    Calls Tryd.prog 24 #[.agg #[.bool (dneg u), .slice A (digs (dm u)).length c, .int .i64 (de u)], .agg #[.bool false, .slice none 0 d, .int .i64 0]] w (Tells w (.int .i64 r)) := by
  subst hr; exact dCmp0 T h h1
end
theorem dm_shift (v k : Int) : dm (shiftD v k) = dm v := by
  unfold shiftD
  rw [sc_m]
  by_cases h : v = 0
  · subst h; rw [show dm 0 = 0 from odd_zero, odd_zero]
  · exact odd_self (dm_odd h)
theorem shift_zero (k : Int) : shiftD 0 k = 0 := by unfold shiftD; rw [show dm 0 = 0 from odd_zero, sc_zero]
theorem shift_shift {v k j : Int} (h : -(K : Int) ≤ de v + k) (hv : v ≠ 0) : shiftD (shiftD v k) j = sc (dneg v) (dm v) (de v + k + j) := by
  have hm : dm v ≠ 0 := fun e => hv (dm_zero.1 e)
  have e1 : dneg (shiftD v k) = dneg v := sc_neg hm
  have e2 := dm_shift v k
  have e3 : de (shiftD v k) = de v + k := by unfold shiftD; rw [sc_e hm h, tz_odd (dm_odd hv)]; omega
  conv => lhs; unfold shiftD
  show sc (dneg (shiftD v k)) (dm (shiftD v k)) (de (shiftD v k) + j) = _
  rw [e1, e2, e3]
theorem shift_back {v k : Int} {L U : Nat} (h : Wd v L U) (h0 : -500 ≤ k) (hL : L ≤ 20000) : shiftD (shiftD v k) (-k) = v := by
  by_cases hv : v = 0
  · subst hv; rw [shift_zero, shift_zero]
  · rw [shift_shift (by have := h.e_ge; unfold K; omega) hv, show de v + k + -k = de v from by omega, sc_self]
theorem shift_mul {v k : Int} {L U : Nat} (h : Wd v L U) (h0 : -500 ≤ k) (hL : L ≤ 20000) : shiftD v k = mulD v (sc false 1 k) := by
  by_cases hv : v = 0
  · subst hv; rw [shift_zero]; unfold mulD; rw [Int.zero_mul, Int.zero_ediv]
  · have e := sc_mul (dneg v) false (dm v) 1 (de v) k de_ge (by unfold K; omega) (by have := h.e_ge; unfold K; omega)
    rw [sc_self, Nat.mul_one, show (dneg v != false) = dneg v from by cases dneg v <;> rfl] at e
    unfold mulD
    rw [← e]
    exact (Int.mul_ediv_cancel _ (Int.ne_of_gt (two_pos K))).symm
theorem shift_cmp {u v k : Int} {L U L' U' : Nat} (h : Wd u L U) (h' : Wd v L' U') (h0 : -500 ≤ k) (hL : L ≤ 20000) (hL' : L' ≤ 20000) : cmpI (shiftD u k) (shiftD v k) = cmpI u v := by
  rw [← F4.cmp_scale _ _ 500, shiftD_eq u k 500 (by have := h.e_ge; unfold K; omega) (by omega), shiftD_eq v k 500 (by have := h'.e_ge; unfold K; omega) (by omega), F4.cmp_scale]
theorem shift_one (v : Int) : v + v = shiftD v 1 := by
  have := shiftD_eq v 1 0 (by have := de_ge (v := v); omega) (by decide)
  rw [Int.pow_zero, Int.mul_one] at this
  rw [this, show ((1 : Int) + (0 : Nat)).toNat = 1 from rfl, Int.pow_one]; omega
theorem of_add (m n : Int) : m * 2 ^ K + n * 2 ^ K = (m + n) * 2 ^ K := (Int.add_mul _ _ _).symm
theorem of_mul (m n : Int) : mulD (m * 2 ^ K) (n * 2 ^ K) = m * n * 2 ^ K := by
  unfold mulD
  have e : ∀ a b c : Int, a * c * (b * c) = a * b * c * c := fun a b c => by ac_rfl
  rw [e, Int.mul_ediv_cancel _ (Int.ne_of_gt (two_pos K))]
theorem of_neg (m : Int) : -(m * 2 ^ K) = -m * 2 ^ K := (Int.neg_mul _ _).symm
theorem of_cmp (m n : Int) : cmpI (m * 2 ^ K) (n * 2 ^ K) = cmpI m n := F4.cmp_scale m n K
/-- What a cut makes. -/
theorem cut_same {v : Int} {n : Nat} {up : Bool} (h : blen (dm v) ≤ n) : cutV v n up = v := by unfold cutV; rw [if_pos h]
theorem cut_cmp (v : Int) (n : Nat) : cmpI (cutV v n false) v ≤ 0 ∧ 0 ≤ cmpI (cutV v n true) v := by
  rcases Nat.lt_or_ge n (blen (dm v)) with h | h
  · obtain ⟨a, b, _⟩ := cut_low (v := v) (n := n) (k := blen (dm v) - n) (by omega) (by omega)
    rw [cmpI_lt a, cmpI_gt b]; decide
  · rw [cut_same h, cut_same h, cmpI_eq rfl]; decide
theorem cut_gap {v : Int} {n : Nat} (h : n < blen (dm v)) : cmpI (cutV v n false) v = -1 ∧ cmpI (cutV v n true) v = 1 ∧ cutV v n true + -cutV v n false = sc false 1 (de v + (blen (dm v) - n : Nat)) := by
  obtain ⟨a, b, c⟩ := cut_low (v := v) (n := n) (k := blen (dm v) - n) (by omega) (by omega)
  exact ⟨cmpI_lt a, cmpI_gt b, c⟩
theorem cut_limbs (v : Int) (n : Nat) (up : Bool) (h1 : 1 ≤ n) (h2 : n ≤ 40) : (digs (dm (cutV v n up))).length ≤ 60 := by
  have h := blen_lt (dm (cutV v n up))
  have h3 := cut_len v n up h1
  obtain ⟨m, hm⟩ : ∃ m, m = 60 := ⟨_, rfl⟩
  rw [← hm]
  apply digs_len_le.2
  rw [show (16777216 : Nat) = 2 ^ 24 from rfl, ← Nat.pow_mul]
  exact Nat.lt_of_lt_of_le h (Nat.pow_le_pow_right (by decide) (by omega))
end Go.Proofs.YtnmjnjhijcnbcaaDoor.F6
