/-
  The functions of layer 2 over numbers, in one shape: for the walks of the laws.
-/
import Derived.Test.YtnmjnjhijcnbcaaDoorE7
import Derived.Test.YtnmjnjhijcnbcaaDoorD9
set_option linter.unusedVariables false
namespace Go.Proofs.YtnmjnjhijcnbcaaDoor.F1
open Go Go.RowKit Go.Proofs.YtnmjnjhijcnbcaaDoor Go.Proofs.YtnmjnjhijcnbcaaDoor.Ow Go.Proofs.YtnmjnjhijcnbcaaDoor.Pl Go.Proofs.YtnmjnjhijcnbcaaDoor.Dp Go.Proofs.YtnmjnjhijcnbcaaDoor.Dt Go.Proofs.YtnmjnjhijcnbcaaDoor.D3 Go.Proofs.YtnmjnjhijcnbcaaDoor.E7

/-- A number's row and how far it reaches. -/
structure Dv (w : World) (A : Option Addr) (c : Nat) (v : Int) (L U : Nat) : Prop where
  cap : (digs (dm v)).length ≤ c
  rd : Rd w A (digs (dm v))
  wd : Wd v L U
theorem Dv.bel {w w' : World} {A : Option Addr} {c : Nat} {v : Int} {L U : Nat} (h : Dv w A c v L U) (b : Bel w w') : Dv w' A c v L U := ⟨h.cap, h.rd.bel b, h.wd⟩
theorem Dv.mono {w : World} {A : Option Addr} {c : Nat} {v : Int} {L U L' U' : Nat} (h : Dv w A c v L U) (h1 : L ≤ L') (h2 : U ≤ U') : Dv w A c v L' U' := ⟨h.cap, h.rd, h.wd.mono h1 h2⟩
theorem Dv.eq {w : World} {A : Option Addr} {c : Nat} {v v' : Int} {L U : Nat} (h : Dv w A c v L U) (e : v = v') : Dv w A c v' L U := e ▸ h
theorem wd_len {v : Int} {L U : Nat} (h : Wd v L U) (hb : L + U ≤ 20000) : (digs (dm v)).length ≤ (L + U) / 24 + 1 := by
  apply digs_len_le.2
  rw [show (16777216 : Nat) = 2 ^ 24 from rfl, ← Nat.pow_mul]
  exact Nat.lt_of_lt_of_le (h.m_lt (by unfold K; omega)) (Nat.pow_le_pow_right (by decide) (by omega))
theorem Dv.len {w : World} {A : Option Addr} {c : Nat} {v : Int} {L U : Nat} (h : Dv w A c v L U) (hb : L + U ≤ 20000) : (digs (dm v)).length ≤ 1000 :=
  Nat.le_trans (wd_len h.wd hb) (by omega)
theorem Dv.e0 {w : World} {A : Option Addr} {c : Nat} {v : Int} {L U : Nat} (h : Dv w A c v L U) (hb : L + U ≤ 20000) : -20000 ≤ de v := by have := h.wd.e_ge; omega
theorem Dv.e1 {w : World} {A : Option Addr} {c : Nat} {v : Int} {L U : Nat} (h : Dv w A c v L U) (hb : L + U ≤ 20000) : de v ≤ 20000 := by have := h.wd.e_le; omega
/-- A number is handed back. -/
def MakesD (w : World) (v : Int) (L U : Nat) (e : Ending) (w' : World) : Prop :=
  ∃ A c, e = .returned (.agg #[.bool (dneg v), .slice A (digs (dm v)).length c, .int .i64 (de v)]) ∧ Dv w' A c v L U ∧ Bel w w'
theorem makesD_of {w : World} {v v' : Int} {L U : Nat} (e : v = v') (hw : Wd v' L U) : ∀ r w', Gives w v r w' → MakesD w v' L U r w' := by
  subst e
  rintro r w' ⟨A, c, h1, h2, h3, h4⟩
  exact ⟨A, c, h1, ⟨h2, h3, hw⟩, h4⟩
/-- What is handed back otherwise. -/
def Tells (w : World) (v : Value) (e : Ending) (w' : World) : Prop := e = .returned v ∧ Bel w w'
theorem mulD_sc (u v : Int) {L U L' U' : Nat} (h : Wd u L U) (k : Wd v L' U') (hL : L + L' ≤ 20000) : sc (dneg u != dneg v) (dm u * dm v) (de u + de v) = mulD u v := by
  have h1 := h.e_ge
  have h2 := k.e_ge
  have := sc_mul (dneg u) (dneg v) (dm u) (dm v) (de u) (de v) (by unfold K; omega) (by unfold K; omega) (by unfold K; omega)
  rw [sc_self, sc_self] at this
  exact scale_inj (by rw [this, mulD_eq h k (by unfold K; omega)])
theorem wd_mulD {u v : Int} {L U L' U' : Nat} (h : Wd u L U) (k : Wd v L' U') (hL : L + L' ≤ 20000) : Wd (mulD u v) (L + L') (U + U') :=
  h.mul k (mulD_eq h k (by unfold K; omega)) (by unfold K; omega)
/-- A number times a power of two. -/
def shiftD (v k : Int) : Int := sc (dneg v) (dm v) (de v + k)
theorem sc_scale (n : Bool) (x : Nat) (e : Int) (m : Nat) (h : -(K : Int) ≤ e) : sc n x e * 2 ^ m = sc n x (e + m) := (sc_shift n x e m h).symm
theorem shiftD_eq (v k : Int) (m : Nat) (h1 : -(K : Int) ≤ de v + k) (h2 : 0 ≤ k + m) : shiftD v k * 2 ^ m = v * 2 ^ (k + m).toNat := by
  have h3 := de_ge (v := v)
  unfold shiftD
  rw [sc_scale _ _ _ _ h1]
  conv => rhs; rw [← sc_self v]
  rw [sc_scale _ _ _ _ h3]
  congr 1; omega
theorem wd_shiftD {v k : Int} {L U N : Nat} (h : Wd v L U) (h0 : -(N : Int) ≤ k) (h1 : k ≤ N) (hL : L + N ≤ 20000) : Wd (shiftD v k) (L + N) (U + N) := by
  have e := shiftD_eq v k N (by have := h.e_ge; unfold K; omega) (by omega)
  have h2 := (h.shl (k + N).toNat (by unfold K; omega))
  have h3 := h2.shr e (by unfold K; omega)
  refine ⟨h3.low, ?_⟩
  -- the upper end
  have h4 := h.up
  have e2 : (shiftD v k).natAbs * 2 ^ N = v.natAbs * 2 ^ (k + N).toNat := by
    have := congrArg Int.natAbs e
    rw [Int.natAbs_mul, Int.natAbs_mul, Int.natAbs_pow, Int.natAbs_pow] at this; exact this
  have h5 : v.natAbs * 2 ^ (k + N).toNat < 2 ^ (K + (U + N)) * 2 ^ N := by
    have := Nat.mul_lt_mul_of_pos_right h4 (Nat.two_pow_pos (k + N).toNat)
    refine Nat.lt_of_lt_of_le this ?_
    rw [← Nat.pow_add, ← Nat.pow_add]
    exact Nat.pow_le_pow_right (by decide) (by omega)
  rw [← e2] at h5
  exact Nat.lt_of_mul_lt_mul_right h5
theorem wd_ofD {n : Int} (h0 : -9223372036854775807 ≤ n) (h1 : n ≤ 9223372036854775807) : Wd (n * 2 ^ K) 0 64 := by
  refine wd_of (y := n) rfl ?_
  rw [Int.natAbs_mul, Int.natAbs_pow, show (2 : Int).natAbs = 2 from rfl, Nat.add_comm K, Nat.pow_add]
  exact Nat.mul_lt_mul_of_pos_right (by omega) (Nat.two_pow_pos K)
theorem ofD_sc (n : Int) : sc (decide (n < 0)) n.natAbs 0 = n * 2 ^ K := by
  unfold sc
  rw [show ((0 : Int) + K).toNat = K from by omega, Int.natCast_mul, Int.natCast_pow]
  by_cases h : n < 0
  · rw [decide_eq_true h, if_pos rfl, ← Int.mul_assoc]; congr 1; omega
  · rw [decide_eq_false h, if_neg (by decide), ← Int.mul_assoc]; congr 1; omega

section
variable {w : World} {A B : Option Addr} {c d : Nat} {u v : Int} {L U L' U' : Nat}
theorem dAdd (T : Tab w) (h : Dv w A c u L U) (k : Dv w B d v L' U') (h1 : L + U ≤ 20000) (h2 : L' + U' ≤ 20000) :
    Calls Tryd.prog 20 #[.agg #[.bool (dneg u), .slice A (digs (dm u)).length c, .int .i64 (de u)], .agg #[.bool (dneg v), .slice B (digs (dm v)).length d, .int .i64 (de v)]] w (MakesD w (u + v) (L + L') (U + U' + 1)) :=
  (E4.add_calls A B c d u v w T h.rd k.rd h.cap k.cap (h.len h1) (k.len h2) (h.e0 h1) (h.e1 h1) (k.e0 h2) (k.e1 h2)).mono (makesD_of rfl (h.wd.add k.wd (by unfold K; omega)))
theorem rAdd (h : Dv w A c u L U) (k : Dv w B d v L' U') (h1 : L + U ≤ 20000) (h2 : L' + U' ≤ 20000) :
    Calls Tryd.prog 21 #[.agg #[.bool (dneg u), .slice A (digs (dm u)).length c, .int .i64 (de u)], .agg #[.bool (dneg v), .slice B (digs (dm v)).length d, .int .i64 (de v)]] w (MakesD w (u + v) (L + L') (U + U' + 1)) :=
  (D7.add_calls A B c d u v w h.rd k.rd h.cap k.cap (h.len h1) (k.len h2) (h.e0 h1) (h.e1 h1) (k.e0 h2) (k.e1 h2)).mono (makesD_of rfl (h.wd.add k.wd (by unfold K; omega)))
theorem dMul (T : Tab w) (h : Dv w A c u L U) (k : Dv w B d v L' U') (h1 : L + U ≤ 10000) (h2 : L' + U' ≤ 10000) :
    Calls Tryd.prog 22 #[.agg #[.bool (dneg u), .slice A (digs (dm u)).length c, .int .i64 (de u)], .agg #[.bool (dneg v), .slice B (digs (dm v)).length d, .int .i64 (de v)]] w (MakesD w (mulD u v) (L + L') (U + U')) :=
  (E3.mul_calls A B c d u v w T h.rd k.rd (h.len (by omega)) (k.len (by omega)) (h.e0 (by omega)) (h.e1 (by omega)) (k.e0 (by omega)) (k.e1 (by omega))).mono (makesD_of (mulD_sc u v h.wd k.wd (by omega)) (wd_mulD h.wd k.wd (by omega)))
theorem rMul (h : Dv w A c u L U) (k : Dv w B d v L' U') (h1 : L + U ≤ 10000) (h2 : L' + U' ≤ 10000) :
    Calls Tryd.prog 23 #[.agg #[.bool (dneg u), .slice A (digs (dm u)).length c, .int .i64 (de u)], .agg #[.bool (dneg v), .slice B (digs (dm v)).length d, .int .i64 (de v)]] w (MakesD w (mulD u v) (L + L') (U + U')) :=
  (D4.mul_calls A B c d u v w h.rd k.rd (h.len (by omega)) (k.len (by omega)) (h.e0 (by omega)) (h.e1 (by omega)) (k.e0 (by omega)) (k.e1 (by omega))).mono (makesD_of (mulD_sc u v h.wd k.wd (by omega)) (wd_mulD h.wd k.wd (by omega)))
theorem dCmp (T : Tab w) (h : Dv w A c u L U) (k : Dv w B d v L' U') (h1 : L + U ≤ 20000) (h2 : L' + U' ≤ 20000) {r : Int} (hr : cmpI u v = r) :
    Calls Tryd.prog 24 #[.agg #[.bool (dneg u), .slice A (digs (dm u)).length c, .int .i64 (de u)], .agg #[.bool (dneg v), .slice B (digs (dm v)).length d, .int .i64 (de v)]] w (Tells w (.int .i64 r)) := by
  subst hr
  exact E5.cmp_calls A B c d u v w T h.rd k.rd h.cap k.cap (h.len h1) (k.len h2) (h.e0 h1) (h.e1 h1) (k.e0 h2) (k.e1 h2)
theorem rCmp (h : Dv w A c u L U) (k : Dv w B d v L' U') (h1 : L + U ≤ 20000) (h2 : L' + U' ≤ 20000) {r : Int} (hr : cmpI u v = r) :
    Calls Tryd.prog 25 #[.agg #[.bool (dneg u), .slice A (digs (dm u)).length c, .int .i64 (de u)], .agg #[.bool (dneg v), .slice B (digs (dm v)).length d, .int .i64 (de v)]] w (Tells w (.int .i64 r)) := by
  subst hr
  exact D8.cmp_calls A B c d u v w h.rd k.rd h.cap k.cap (h.len h1) (k.len h2) (h.e0 h1) (h.e1 h1) (k.e0 h2) (k.e1 h2)
theorem dSign (h : Dv w A c u L U) {r : Int} (hr : sgn u = r) :
    Calls Tryd.prog 26 #[.agg #[.bool (dneg u), .slice A (digs (dm u)).length c, .int .i64 (de u)]] w (Tells w (.int .i64 r)) := by
  subst hr
  exact E2.sign_calls A c u w
theorem rSign (h : Dv w A c u L U) {r : Int} (hr : sgn u = r) :
    Calls Tryd.prog 27 #[.agg #[.bool (dneg u), .slice A (digs (dm u)).length c, .int .i64 (de u)]] w (Tells w (.int .i64 r)) := by
  subst hr
  exact D1.sign_calls A c u w
theorem dFlip (T : Tab w) (h : Dv w A c u L U) (h1 : L + U ≤ 20000) :
    Calls Tryd.prog 28 #[.agg #[.bool (dneg u), .slice A (digs (dm u)).length c, .int .i64 (de u)]] w (MakesD w (-u) L U) :=
  (E2.flip_calls A c u w T h.rd h.cap (by have := h.len h1; omega) (h.e0 h1) (h.e1 h1)).mono (makesD_of rfl h.wd.neg)
theorem rFlip (h : Dv w A c u L U) :
    Calls Tryd.prog 29 #[.agg #[.bool (dneg u), .slice A (digs (dm u)).length c, .int .i64 (de u)]] w (MakesD w (-u) L U) :=
  (D8.flipG_calls A c u w h.rd h.cap).mono (makesD_of rfl h.wd.neg)
theorem dShift (T : Tab w) (h : Dv w A c u L U) (k : Int) (N : Nat) (h1 : L + U ≤ 20000) (hk0 : -(N : Int) ≤ k) (hk1 : k ≤ N) (hN : L + N ≤ 20000) :
    Calls Tryd.prog 30 #[.agg #[.bool (dneg u), .slice A (digs (dm u)).length c, .int .i64 (de u)], .int .i64 k] w (MakesD w (shiftD u k) (L + N) (U + N)) :=
  (E2.shift_calls A c u k w T h.rd h.cap (by have := h.len h1; omega) (h.e0 h1) (h.e1 h1) (by omega) (by omega)).mono (makesD_of rfl (wd_shiftD h.wd hk0 hk1 (by omega)))
theorem rShift (h : Dv w A c u L U) (k : Int) (N : Nat) (h1 : L + U ≤ 20000) (hk0 : -(N : Int) ≤ k) (hk1 : k ≤ N) (hN : L + N ≤ 20000) :
    Calls Tryd.prog 31 #[.agg #[.bool (dneg u), .slice A (digs (dm u)).length c, .int .i64 (de u)], .int .i64 k] w (MakesD w (shiftD u k) (L + N) (U + N)) :=
  (D3.shift_calls A c u k w h.rd h.cap (by have := h.len h1; omega) (h.e0 h1) (h.e1 h1) (by omega) (by omega)).mono (makesD_of rfl (wd_shiftD h.wd hk0 hk1 (by omega)))
theorem dCut (T : Tab w) (h : Dv w A c u L U) (n : Nat) (up : Bool) (h1 : L + U ≤ 20000) (hn : n ≤ 20000) {nn : Int} (hnn : (n : Int) = nn) :
    Calls Tryd.prog 32 #[.agg #[.bool (dneg u), .slice A (digs (dm u)).length c, .int .i64 (de u)], .int .i64 nn, .bool up] w (MakesD w (cutV u n up) L (U + 1)) := by
  subst hnn
  exact (E6.cut_calls A c n up u w T h.rd h.cap (h.len h1) (h.e0 h1) (h.e1 h1) hn).mono (makesD_of rfl (h.wd.cut n up (by unfold K; omega)))
theorem rCut (h : Dv w A c u L U) (n : Nat) (up : Bool) (h1 : L + U ≤ 20000) (hn : n ≤ 20000) {nn : Int} (hnn : (n : Int) = nn) :
    Calls Tryd.prog 33 #[.agg #[.bool (dneg u), .slice A (digs (dm u)).length c, .int .i64 (de u)], .int .i64 nn, .bool up] w (MakesD w (cutV u n up) L (U + 1)) := by
  subst hnn
  exact (D9.cut_calls A c n up u w h.rd h.cap (h.len h1) (h.e0 h1) (h.e1 h1) hn).mono (makesD_of rfl (h.wd.cut n up (by unfold K; omega)))
theorem dOf (T : Tab w) (n : Int) (h0 : -9223372036854775807 ≤ n) (h1 : n ≤ 9223372036854775807) : Calls Tryd.prog 34 #[.int .i64 n] w (MakesD w (n * 2 ^ K) 0 64) :=
  (E2.of_calls n w T h0 h1).mono (makesD_of (ofD_sc n) (wd_ofD h0 h1))
theorem rOf (n : Int) (h0 : -9223372036854775807 ≤ n) (h1 : n ≤ 9223372036854775807) : Calls Tryd.prog 35 #[.int .i64 n] w (MakesD w (n * 2 ^ K) 0 64) :=
  (D5.of_calls n w h0 h1).mono (makesD_of (ofD_sc n) (wd_ofD h0 h1))
/-- A natural's row; so many bits at most. -/
structure Nv (w : World) (A : Option Addr) (c : Nat) (x b : Nat) : Prop where
  cap : (digs x).length ≤ c
  rd : Rd w A (digs x)
  lt : x < 2 ^ b
theorem Nv.bel {w w' : World} {A : Option Addr} {c : Nat} {x b : Nat} (h : Nv w A c x b) (g : Bel w w') : Nv w' A c x b := ⟨h.cap, h.rd.bel g, h.lt⟩
theorem Nv.len {w : World} {A : Option Addr} {c : Nat} {x b : Nat} (h : Nv w A c x b) : (digs x).length ≤ b / 24 + 1 := by
  apply digs_len_le.2
  rw [show (16777216 : Nat) = 2 ^ 24 from rfl, ← Nat.pow_mul]
  exact Nat.lt_of_lt_of_le h.lt (Nat.pow_le_pow_right (by decide) (by omega))
theorem dMake (T : Tab w) {x b : Nat} (h : Nv w A c x b) (n : Bool) (e : Int) (hb : b ≤ 20000) (hL : L ≤ 20000) (e0 : -(L : Int) ≤ e) (e1 : e + b ≤ U) (hU : U ≤ 20000) : Calls Tryd.prog 36 #[.bool n, .slice A (digs x).length c, .int .i64 e] w (MakesD w (sc n x e) L U) :=
  (E1.make_calls A c x n e w T h.rd h.cap (by have := h.len; omega) (by omega) (by omega)).mono (makesD_of rfl (wd_sc n h.lt e0 e1 (by unfold K; omega)))
theorem rMake {x b : Nat} (h : Nv w A c x b) (n : Bool) (e : Int) (hb : b ≤ 20000) (hL : L ≤ 20000) (e0 : -(L : Int) ≤ e) (e1 : e + b ≤ U) (hU : U ≤ 20000) : Calls Tryd.prog 37 #[.bool n, .slice A (digs x).length c, .int .i64 e] w (MakesD w (sc n x e) L U) :=
  (D2.make_calls A c x n e w h.rd h.cap (by have := h.len; omega) (by omega) (by omega)).mono (makesD_of rfl (wd_sc n h.lt e0 e1 (by unfold K; omega)))
/-- A number's own natural. -/
theorem Dv.nv {w : World} {A : Option Addr} {c : Nat} {v : Int} {L U : Nat} (h : Dv w A c v L U) (hb : L + U ≤ 20000) : Nv w A c (dm v) (L + U) := ⟨h.cap, h.rd, h.wd.m_lt (by unfold K; omega)⟩
theorem dRight (h : Dv w A c u L U) (hL : L ≤ 6000) (hU : U ≤ 6000) (hb : L + U ≤ 1400) :
    Calls Tryd.prog 16 #[.agg #[.bool (dneg u), .slice A (digs (dm u)).length c, .int .i64 (de u)]] w (Tells w (.bool true)) := by
  have := right_calls A c (dneg u) (digs (dm u)) (de u) w h.rd
  rwa [num_right (by have := wd_len h.wd (by omega); omega) (by have := h.wd.e_ge; omega) (by have := h.wd.e_le; omega)] at this
theorem rRight (h : Dv w A c u L U) (hL : L ≤ 6000) (hU : U ≤ 6000) (hb : L + U ≤ 1400) :
    Calls Tryd.prog 17 #[.agg #[.bool (dneg u), .slice A (digs (dm u)).length c, .int .i64 (de u)]] w (Tells w (.bool true)) := by
  have := refRight_calls A c (dneg u) (digs (dm u)) (de u) w h.rd
  rwa [num_right (by have := wd_len h.wd (by omega); omega) (by have := h.wd.e_ge; omega) (by have := h.wd.e_le; omega)] at this
theorem same3_num (u v : Int) : D1.same3 (dneg u) (dneg v) (de u) (de v) (digs (dm u)) (digs (dm v)) = decide (u = v) := by
  unfold D1.same3
  by_cases h : u = v
  · subst h; simp [R2.sameB_self]
  · rw [decide_eq_false h]
    apply Bool.eq_false_iff.2
    intro q
    simp only [Bool.and_eq_true, decide_eq_true_eq] at q
    obtain ⟨q1, q2, q3⟩ := q
    have q4 : digs (dm u) = digs (dm v) := by simpa [R2.sameB] using q3
    exact h (d_inj q1 (digs_inj q4) q2)
theorem drewBel {w w' : World} {v : Value} : ∀ e w', (e = .returned v ∧ Bel w w') → Tells w v e w' := fun _ _ h => h
theorem same (h : Dv w A c u L U) (k : Dv w B d v L' U') (e : u = v) :
    Calls Tryd.prog 19 #[.agg #[.bool (dneg u), .slice A (digs (dm u)).length c, .int .i64 (de u)], .agg #[.bool (dneg v), .slice B (digs (dm v)).length d, .int .i64 (de v)]] w (Tells w (.bool true)) := by
  have := D1.same_calls (dneg u) (dneg v) (de u) (de v) A B c d (digs (dm u)) (digs (dm v)) w h.rd k.rd
  rwa [same3_num, decide_eq_true e] at this
theorem sameB (h : Dv w A c u L U) (k : Dv w B d v L' U') {b : Bool} (e : decide (u = v) = b) :
    Calls Tryd.prog 19 #[.agg #[.bool (dneg u), .slice A (digs (dm u)).length c, .int .i64 (de u)], .agg #[.bool (dneg v), .slice B (digs (dm v)).length d, .int .i64 (de v)]] w (Tells w (.bool b)) := by
  have := D1.same_calls (dneg u) (dneg v) (de u) (de v) A B c d (digs (dm u)) (digs (dm v)) w h.rd k.rd
  rwa [same3_num, e] at this
/-- .. held against a number that is written out: a sign, a row, a power. -/
theorem sameLit (h : Dv w A c u L U) (n : Bool) (l : List Int) (e : Int) {x : Nat} (hl : digs x = l) (k : Rd w B l) (hx : x % 2 = 1) (he : -(K : Int) ≤ e) (hu : u = sc n x e) :
    Calls Tryd.prog 19 #[.agg #[.bool (dneg u), .slice A (digs (dm u)).length c, .int .i64 (de u)], .agg #[.bool n, .slice B l.length d, .int .i64 e]] w (Tells w (.bool true)) := by
  have hx0 : x ≠ 0 := by omega
  subst hl
  have e1 : dneg u = n := by rw [hu, sc_neg hx0]
  have e2 : dm u = x := by rw [hu, sc_m, odd_self hx]
  have e3 : de u = e := by rw [hu, sc_e hx0 he, tz_odd hx]; omega
  have := D1.same_calls (dneg u) n (de u) e A B c d (digs (dm u)) (digs x) w h.rd k
  rw [show D1.same3 (dneg u) n (de u) e (digs (dm u)) (digs x) = true by rw [e1, e2, e3]; simp [D1.same3, R2.sameB_self]] at this
  exact this
theorem lit0 : (#[.bool false, .slice none 0 d, .int .i64 0] : Array Value) = #[.bool (dneg 0), .slice none (digs (dm 0)).length d, .int .i64 (de 0)] := by
  rw [show dm 0 = 0 from odd_zero, digs_zero]; rfl
theorem Dv.zero (w : World) (d : Nat) : Dv w none d 0 0 0 := ⟨by rw [show dm 0 = 0 from odd_zero, digs_zero]; exact Nat.zero_le _, by rw [show dm 0 = 0 from odd_zero, digs_zero]; exact Rd.nil _ _, Wd.zero _ _⟩
theorem same0 (h : Dv w A c u L U) (e : u = 0) :
    Calls Tryd.prog 19 #[.agg #[.bool (dneg u), .slice A (digs (dm u)).length c, .int .i64 (de u)], .agg #[.bool false, .slice none 0 d, .int .i64 0]] w (Tells w (.bool true)) := by
  rw [lit0]; exact same h (Dv.zero w d) e
theorem dSign0 : Calls Tryd.prog 26 #[.agg #[.bool false, .slice none 0 d, .int .i64 0]] w (Tells w (.int .i64 0)) := by
  rw [lit0]; exact dSign (Dv.zero w d) rfl
theorem dCmp0 (T : Tab w) (h : Dv w A c u L U) (h1 : L + U ≤ 20000) :
    Calls Tryd.prog 24 #[.agg #[.bool (dneg u), .slice A (digs (dm u)).length c, .int .i64 (de u)], .agg #[.bool false, .slice none 0 d, .int .i64 0]] w (Tells w (.int .i64 (sgn u))) := by
  rw [lit0]; exact dCmp T h (Dv.zero w d) h1 (by omega) rfl
theorem wLen (h : Dv w A c u L U) : Calls Tryd.prog 38 #[.slice A (digs (dm u)).length c] w (Tells w (.int .i64 (blen (dm u)))) :=
  (R3.len_calls A c (dm u) w h.rd).mono fun e w' ⟨he, hw⟩ => ⟨he, hw ▸ Bel.refl _⟩
theorem rNOf (n : Int) {x b : Nat} (hx : x = n.toNat) (h1 : n ≤ 9223372036854775807) (hb : x < 2 ^ b) : Calls Tryd.prog 49 #[.int .i64 n] w fun e w' => ∃ A c, e = .returned (.slice A (digs x).length c) ∧ Nv w' A c x b ∧ Bel w w' :=
  (R2.refOf_calls n x w hx h1).mono fun e w' ⟨A, c, h1, h2, h3, h4⟩ => ⟨A, c, h1, ⟨h2, h3, hb⟩, h4⟩
end
end Go.Proofs.YtnmjnjhijcnbcaaDoor.F1
