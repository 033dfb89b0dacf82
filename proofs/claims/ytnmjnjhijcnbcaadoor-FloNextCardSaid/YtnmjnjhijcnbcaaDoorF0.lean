/-
  Numbers that are written out; the numbers of layer 2's live question.
-/
import Derived.Test.YtnmjnjhijcnbcaaDoorF4
set_option linter.unusedVariables false
namespace Go.Proofs.YtnmjnjhijcnbcaaDoor.F0
open Go Go.RowKit Go.Proofs.YtnmjnjhijcnbcaaDoor Go.Proofs.YtnmjnjhijcnbcaaDoor.Ow Go.Proofs.YtnmjnjhijcnbcaaDoor.Pl Go.Proofs.YtnmjnjhijcnbcaaDoor.Dp Go.Proofs.YtnmjnjhijcnbcaaDoor.Dt Go.Proofs.YtnmjnjhijcnbcaaDoor.D3 Go.Proofs.YtnmjnjhijcnbcaaDoor.E7 Go.Proofs.YtnmjnjhijcnbcaaDoor.F1

theorem litRd (w : World) (x : Int) : Rd (w.alloc (.cells #[.int .i64 x] 3)) (some ⟨w.heap.size, 0, none⟩) [x] := (Blk.new w (ints [x]) 3).rd (by simp)
theorem digs1 {x : Nat} (h0 : x ≠ 0) (h : x < 16777216) : digs x = [(x : Int)] := by
  rw [digs_pos h0, Nat.mod_eq_of_lt h, Nat.div_eq_of_lt h, digs_zero]
section
variable {w : World} {A B : Option Addr} {c d : Nat} {u v : Int} {L U L' U' : Nat}
theorem sameLit1 (h : Dv w A c u L U) {n : Bool} {x : Nat} {xi : Int} (k : Rd w B [xi]) {e : Int} (hxi : (x : Int) = xi) (hx : x % 2 = 1) (hx2 : x < 16777216) (he : -(K : Int) ≤ e) (hu : u = sc n x e) :
    Calls Tryd.prog 19 #[.agg #[.bool (dneg u), .slice A (digs (dm u)).length c, .int .i64 (de u)], .agg #[.bool n, .slice B 1 d, .int .i64 e]] w (Tells w (.bool true)) := by
  subst hxi
  exact sameLit h n [(x : Int)] e (digs1 (by omega) hx2) k hx he hu
/-- A number that is written out is one. -/
theorem litDv {n : Bool} {x : Nat} {xi e : Int} (k : Rd w B [xi]) (hxi : (x : Int) = xi) (hx : x % 2 = 1) (hx2 : x < 16777216) (h1 : -(L : Int) ≤ e) (h2 : e + 24 ≤ U) (hL : L ≤ 20000) (hd : 1 ≤ d) :
    Dv w B d (sc n x e) L U ∧ dneg (sc n x e) = n ∧ digs (dm (sc n x e)) = [xi] ∧ de (sc n x e) = e := by
  subst hxi
  have hx0 : x ≠ 0 := by omega
  have e2 : digs (dm (sc n x e)) = [(x : Int)] := by rw [sc_m, odd_self hx, digs1 hx0 hx2]
  refine ⟨⟨by rw [e2]; simpa using hd, by rw [e2]; exact k, ?_⟩, sc_neg hx0, e2, by rw [sc_e hx0 (by unfold K; omega), tz_odd hx]; omega⟩
  exact wd_sc n (b := 24) (by omega) h1 (by omega) (by unfold K; omega)
theorem dRightRow (n : Bool) (l : List Int) (e : Int) (h : Rd w A l) {b : Bool} (hb : rightB n l e = b) :
    Calls Tryd.prog 16 #[.agg #[.bool n, .slice A l.length c, .int .i64 e]] w (Tells w (.bool b)) := by
  have := right_calls A c n l e w h
  rwa [hb] at this
theorem dRight1 (n : Bool) (x : Int) (e : Int) (h : Rd w A [x]) {b : Bool} (hb : rightB n [x] e = b) :
    Calls Tryd.prog 16 #[.agg #[.bool n, .slice A 1 c, .int .i64 e]] w (Tells w (.bool b)) := dRightRow n [x] e h hb
theorem dRight0 (n : Bool) (e : Int) {b : Bool} (hb : rightB n [] e = b) :
    Calls Tryd.prog 16 #[.agg #[.bool n, .slice A 0 c, .int .i64 e]] w (Tells w (.bool b)) := dRightRow n [] e (Rd.nil _ _) hb
theorem dOf0 (T : Tab w) : Calls Tryd.prog 34 #[.int .i64 0] w (MakesD w 0 0 64) := by
  have := dOf T 0 (by omega) (by omega)
  rwa [Int.zero_mul] at this
theorem dOf1 (T : Tab w) : Calls Tryd.prog 34 #[.int .i64 1] w (MakesD w (2 ^ K) 0 64) := by
  have := dOf T 1 (by omega) (by omega)
  rwa [Int.one_mul] at this
theorem dFlipEq (T : Tab w) (h : Dv w A c u L U) (h1 : L + U ≤ 20000) {r : Int} (hr : -u = r) :
    Calls Tryd.prog 28 #[.agg #[.bool (dneg u), .slice A (digs (dm u)).length c, .int .i64 (de u)]] w (MakesD w r L U) := by
  subst hr; exact dFlip T h h1
end
/-! ### the numbers of the live question -/
theorem sc_H {n : Bool} {x : Nat} {e : Int} (j : Nat) (h : e + 3 = j) : sc n x e = (if n then -1 else 1) * ((x * 2 ^ j : Nat) : Int) * 2 ^ (K - 3) := by
  unfold sc
  rw [show (e + K).toNat = j + (K - 3) from by unfold K; omega, Nat.pow_add, ← Nat.mul_assoc, Int.natCast_mul _ (2 ^ (K - 3)), Int.natCast_pow, ← Int.mul_assoc]; rfl
theorem K_H : (2 : Int) ^ K = 8 * 2 ^ (K - 3) := by
  conv => lhs; rw [show K = 3 + (K - 3) from by unfold K; omega, Int.pow_add]
  rfl
theorem h_a : sc true 20 (-3) = sc true 5 (-1) := by rw [sc_H 0 rfl, sc_H 2 rfl]
theorem h_b : sc true 20 (-3) + 3 * 2 ^ K = sc false 1 (-1) := by
  rw [sc_H 0 rfl, sc_H 2 rfl, K_H]
  generalize (2 : Int) ^ (K - 3) = H
  simp; omega
theorem h_ab : mulD (sc true 20 (-3)) (sc true 20 (-3) + 3 * 2 ^ K) = sc true 5 (-2) := by
  rw [h_b]
  unfold mulD
  have e : sc true 20 (-3) * sc false 1 (-1) = sc true 5 (-2) * 2 ^ K := by
    rw [sc_H 0 rfl, sc_H 2 rfl, sc_H 1 rfl, K_H]
    generalize (2 : Int) ^ (K - 3) = H
    have h1 : ((if true = true then (-1 : Int) else 1) * ((20 * 2 ^ 0 : Nat) : Int) * H) = -20 * H := by simp
    have h2 : ((if false = true then (-1 : Int) else 1) * ((1 * 2 ^ 2 : Nat) : Int) * H) = 4 * H := by simp
    have h3 : ((if true = true then (-1 : Int) else 1) * ((5 * 2 ^ 1 : Nat) : Int) * H) = -10 * H := by simp
    rw [h1, h2, h3]
    have : ∀ a b : Int, a * H * (b * H) = a * b * (H * H) := fun a b => by ac_rfl
    rw [this, this]; rfl
  rw [e, Int.mul_ediv_cancel _ (Int.ne_of_gt (two_pos K))]
theorem h_cmp : cmpI (sc true 20 (-3)) (sc true 20 (-3) + 3 * 2 ^ K) = -1 := by
  apply cmpI_lt
  have := two_pos K
  omega
theorem h_sgn : sgn (sc true 20 (-3)) = -1 := by
  apply cmpI_lt
  rw [sc_H 0 rfl]
  have := two_pos (K - 3)
  generalize (2 : Int) ^ (K - 3) = H at *
  simp; omega
theorem h_flip : -sc true 20 (-3) = sc false 5 (-1) := by
  rw [sc_H 0 rfl, sc_H 2 rfl]
  generalize (2 : Int) ^ (K - 3) = H
  simp; omega
theorem h_shift : shiftD (sc true 20 (-3)) 2 = sc true 5 1 := by
  have := shiftD_eq (sc true 20 (-3)) 2 0 (by have := de_ge (v := sc true 20 (-3)); omega) (by decide)
  rw [Int.pow_zero, Int.mul_one] at this
  rw [this, sc_H 0 rfl, sc_H 4 rfl]
  generalize (2 : Int) ^ (K - 3) = H
  simp; omega
theorem five : (5 : Int) * 2 ^ K = sc false 5 0 ∧ (-5 : Int) * 2 ^ K = sc true 5 0 := ⟨(ofD_sc 5).symm, (ofD_sc (-5)).symm⟩
theorem blen5 : blen 5 = 3 := blen_eq (by decide) (by decide)
theorem dm5 (n : Bool) : dm (sc n 5 0) = 5 := by rw [sc_m, odd_self (by decide)]
theorem de5 (n : Bool) : de (sc n 5 0) = 0 := by rw [sc_e (by decide) (by unfold K; omega), tz_odd (by decide)]; rfl
theorem dn5 (n : Bool) : dneg (sc n 5 0) = n := sc_neg (by decide)
theorem cut5 (n up : Bool) : cutV (sc n 5 0) 2 up = sc n (2 + (if up = n then 0 else 1)) 1 := by
  unfold cutV cutX
  rw [dm5, blen5, if_neg (by decide), dn5, de5]; rfl
theorem h_cut1 : cutV (5 * 2 ^ K) 2 true = 6 * 2 ^ K := by
  rw [five.1, cut5, sc_H 4 rfl, K_H]
  generalize (2 : Int) ^ (K - 3) = H
  simp; omega
theorem h_cut2 : cutV (5 * 2 ^ K) 2 false = 4 * 2 ^ K := by
  rw [five.1, cut5, sc_H 4 rfl, K_H]
  generalize (2 : Int) ^ (K - 3) = H
  simp; omega
theorem h_cut3 : cutV ((-5) * 2 ^ K) 2 true = (-4) * 2 ^ K := by
  rw [five.2, cut5, sc_H 4 rfl, K_H]
  generalize (2 : Int) ^ (K - 3) = H
  simp; omega
end Go.Proofs.YtnmjnjhijcnbcaaDoor.F0
