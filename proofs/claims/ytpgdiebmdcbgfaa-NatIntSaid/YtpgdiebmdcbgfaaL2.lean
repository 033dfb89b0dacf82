/-
  The functions of layer 1 over naturals' rows, in one shape: for the walks of the laws.
-/
import Derived.Test.YtpgdiebmdcbgfaaR8
import Derived.Test.YtpgdiebmdcbgfaaNc
import Derived.Test.YtpgdiebmdcbgfaaNd
import Derived.Test.YtpgdiebmdcbgfaaN8
import Derived.Test.YtpgdiebmdcbgfaaN9
import Derived.Test.YtpgdiebmdcbgfaaNa
import Derived.Test.YtpgdiebmdcbgfaaL1
set_option linter.unusedVariables false
namespace Go.Proofs.Ytpgdiebmdcbgfaa.L2
open Go.RowKit Go.Proofs.Ytpgdiebmdcbgfaa Go.Proofs.Ytpgdiebmdcbgfaa.Ow Go.Proofs.Ytpgdiebmdcbgfaa.Pl

/-- A value that is a natural's row; so many limbs at most. -/
structure Nm (w : World) (v : Value) (x n : Nat) : Prop where
  out : ∃ A c, v = .slice A (digs x).length c ∧ (digs x).length ≤ c ∧ Rd w A (digs x)
  len : (digs x).length ≤ n
theorem Nm.bel {w w' : World} {v : Value} {x n : Nat} (h : Nm w v x n) (b : Bel w w') : Nm w' v x n :=
  ⟨by obtain ⟨A, c, e, hc, hr⟩ := h.out; exact ⟨A, c, e, hc, hr.bel b⟩, h.len⟩
theorem Nm.zero {w : World} {v : Value} {n : Nat} (h : Nm w v 0 n) : ∃ A c, v = .slice A 0 c := by
  obtain ⟨A, c, e, _, _⟩ := h.out; rw [digs_zero] at e; exact ⟨A, c, e⟩
theorem Nm.nil (w : World) (c : Nat) : Nm w (.slice none 0 c) 0 0 := ⟨⟨none, c, by rw [digs_zero]; rfl, by rw [digs_zero]; simp, by rw [digs_zero]; exact Rd.nil _ _⟩, by rw [digs_zero]; simp⟩
theorem digs_lit1 {a : Nat} (h0 : a ≠ 0) (h1 : a < 16777216) : digs a = [(a : Int)] := by
  rw [digs_pos h0, Nat.mod_eq_of_lt h1, Nat.div_eq_of_lt h1, digs_zero]
theorem digs_lit2 {a b : Nat} (ha : a < 16777216) (h0 : b ≠ 0) (h1 : b < 16777216) : digs (a + 16777216 * b) = [(a : Int), (b : Int)] := by
  rw [digs_pos (by omega), show (a + 16777216 * b) % 16777216 = a from by omega, show (a + 16777216 * b) / 16777216 = b from by omega, digs_lit1 h0 h1]
theorem Nm.lit {w : World} {v : Value} (x : Nat) (l : List Int) (hd : digs x = l) (hv : v = .slice (some ⟨w.heap.size, 0, none⟩) l.length l.length) (hl : l.length ≤ 100) : Nm (w.alloc (.cells (ints l).toArray 3)) v x l.length := by
  subst hd
  exact ⟨⟨_, _, hv, Nat.le_refl _, (Blk.new w (ints (digs x)) 3).rd (by omega)⟩, Nat.le_refl _⟩
theorem Nm.lit1 {w : World} (a : Nat) {i : Int} (hi : (a : Int) = i) (h0 : a ≠ 0) (h1 : a < 16777216) : Nm (w.alloc (.cells #[.int .i64 i] 3)) (.slice (some ⟨w.heap.size, 0, none⟩) 1 1) a 1 := by
  subst hi; exact Nm.lit a [(a : Int)] (digs_lit1 h0 h1) rfl (by simp)
theorem Nm.lit2 {w : World} (a b : Nat) {i j : Int} (hi : (a : Int) = i) (hj : (b : Int) = j) (ha : a < 16777216) (h0 : b ≠ 0) (h1 : b < 16777216) : Nm (w.alloc (.cells #[.int .i64 i, .int .i64 j] 3)) (.slice (some ⟨w.heap.size, 0, none⟩) 2 2) (a + 16777216 * b) 2 := by
  subst hi; subst hj; exact Nm.lit _ [(a : Int), (b : Int)] (digs_lit2 ha h0 h1) rfl (by simp)

theorem lt_of_len {x n : Nat} (h : (digs x).length ≤ n) : x < 16777216 ^ n := digs_len_le.1 h
theorem len_add {x y a b : Nat} (h : (digs x).length ≤ a) (k : (digs y).length ≤ b) : (digs (x + y)).length ≤ a + b + 1 := by
  apply digs_len_le.2
  have h1 := Nat.lt_of_lt_of_le (lt_of_len h) (pow_le_nat (Nat.le_add_right a b))
  have h2 := Nat.lt_of_lt_of_le (lt_of_len k) (pow_le_nat (Nat.le_add_left b a))
  rw [Nat.pow_succ]
  omega
theorem len_mul {x y a b : Nat} (h : (digs x).length ≤ a) (k : (digs y).length ≤ b) : (digs (x * y)).length ≤ a + b := by
  apply digs_len_le.2
  rw [Nat.pow_add]
  exact Nat.mul_lt_mul'' (lt_of_len h) (lt_of_len k)
theorem len_shl {x a : Nat} (k : Nat) (h : (digs x).length ≤ a) : (digs (x * 2 ^ k)).length ≤ a + k + 1 := by
  have : (digs (2 ^ k)).length ≤ k + 1 := digs_len_le.2 (Nat.lt_of_lt_of_le (Nat.pow_lt_pow_left (by decide : 2 < 16777216) (by omega : k + 1 ≠ 0) |> Nat.lt_of_le_of_lt (Nat.pow_le_pow_right (by decide) (by omega))) (Nat.le_refl _))
  rw [Nat.add_assoc]; exact len_mul h this
theorem len_le {x y a : Nat} (hy : y ≤ x) (h : (digs x).length ≤ a) : (digs y).length ≤ a := Nat.le_trans (digs_len_mono hy) h
theorem rootN_self (x : Nat) : rootN x ≤ x := sq_le_self (rootN_le x)

/-- What a call hands back that makes a row. -/
def Makes (w : World) (x n : Nat) (e : Ending) (w' : World) : Prop := ∃ r, e = .returned r ∧ Nm w' r x n ∧ Bel w w'
theorem makes_of {w : World} {x n : Nat} (hn : (digs x).length ≤ n) : ∀ e w', (∃ A c, e = .returned (.slice A (digs x).length c) ∧ (digs x).length ≤ c ∧ Rd w' A (digs x) ∧ Bel w w') → Makes w x n e w' := by
  rintro e w' ⟨A, c, rfl, hc, hr, hb⟩
  exact ⟨_, rfl, ⟨⟨A, c, rfl, hc, hr⟩, hn⟩, hb⟩
/-- .. with a yes. -/
def MakesYes (w : World) (x n : Nat) (e : Ending) (w' : World) : Prop := ∃ r, e = .returned (.tuple #[r, .bool true]) ∧ Nm w' r x n ∧ Bel w w'
theorem makesYes_of {w : World} {x n : Nat} (hn : (digs x).length ≤ n) : ∀ e w', (∃ A c, e = .returned (.tuple #[.slice A (digs x).length c, .bool true]) ∧ (digs x).length ≤ c ∧ Rd w' A (digs x) ∧ Bel w w') → MakesYes w x n e w' := by
  rintro e w' ⟨A, c, rfl, hc, hr, hb⟩
  exact ⟨_, rfl, ⟨⟨A, c, rfl, hc, hr⟩, hn⟩, hb⟩
/-- What a call hands back otherwise. -/
def Tells (w : World) (v : Value) (e : Ending) (w' : World) : Prop := e = .returned v ∧ Bel w w'
theorem tells_quiet {w : World} {v : Value} : ∀ e w', (e = .returned v ∧ w = w') → Tells w v e w' := by
  rintro e w' ⟨rfl, rfl⟩; exact ⟨rfl, Bel.refl _⟩
theorem tells_drew {w : World} {v : Value} : ∀ e w', (e = .returned v ∧ ∃ n, w' = w.drewN n) → Tells w v e w' := by
  rintro e w' ⟨rfl, n, rfl⟩; exact ⟨rfl, (Bel.refl _).drewN n⟩

variable {w : World} {u v : Value} {x y a b : Nat}
theorem nAdd (h : Nm w u x a) (k : Nm w v y b) (ha : a ≤ 20000) (hb : b ≤ 20000) : Calls Try.prog 20 #[u, v] w (Makes w (x + y) (a + b + 1)) := by
  obtain ⟨A0, c0, rfl, hc0, h0⟩ := h.out; obtain ⟨A1, c1, rfl, hc1, h1⟩ := k.out
  exact (N4.add_calls A0 A1 c0 c1 x y w h0 hc0 h1 hc1 (by have := h.len; omega) (by have := k.len; omega)).mono (makes_of (len_add h.len k.len))
theorem nMul (h : Nm w u x a) (k : Nm w v y b) (ha : a ≤ 20000) (hb : b ≤ 20000) : Calls Try.prog 22 #[u, v] w (Makes w (x * y) (a + b)) := by
  obtain ⟨A0, c0, rfl, hc0, h0⟩ := h.out; obtain ⟨A1, c1, rfl, hc1, h1⟩ := k.out
  exact (N8.mul_calls A0 A1 c0 c1 x y w h0 h1 (by have := h.len; omega) (by have := k.len; omega)).mono (makes_of (len_mul h.len k.len))
theorem nSub (h : Nm w u x a) (k : Nm w v y b) (ha : a ≤ 20000) (hyx : y ≤ x) : Calls Try.prog 16 #[u, v] w (MakesYes w (x - y) a) := by
  obtain ⟨A0, c0, rfl, hc0, h0⟩ := h.out; obtain ⟨A1, c1, rfl, hc1, h1⟩ := k.out
  exact (N5.sub_calls A0 A1 c0 c1 x y w h0 hc0 h1 hc1 (by have := h.len; omega) hyx).mono (makesYes_of (len_le (Nat.sub_le _ _) h.len))
theorem nSubNo (h : Nm w u x a) (k : Nm w v y b) (hxy : x < y) : Calls Try.prog 16 #[u, v] w (Tells w (.tuple #[.slice none 0 0, .bool false])) := by
  obtain ⟨A0, c0, rfl, hc0, h0⟩ := h.out; obtain ⟨A1, c1, rfl, hc1, h1⟩ := k.out
  exact (N5.subNo_calls A0 A1 c0 c1 x y w h0 h1 hxy).mono fun _ _ h => h
theorem nCmpLt (h : Nm w u x a) (k : Nm w v y b) (hxy : x < y) : Calls Try.prog 24 #[u, v] w (Tells w (.int .i64 (-1))) := by
  obtain ⟨A0, c0, rfl, hc0, h0⟩ := h.out; obtain ⟨A1, c1, rfl, hc1, h1⟩ := k.out
  have := N5.cmp_calls A0 A1 c0 c1 x y w h0 h1
  rw [cmpI_lt (by omega)] at this
  exact this.mono tells_drew
theorem nCmpGt (h : Nm w u x a) (k : Nm w v y b) (hxy : y < x) : Calls Try.prog 24 #[u, v] w (Tells w (.int .i64 (1))) := by
  obtain ⟨A0, c0, rfl, hc0, h0⟩ := h.out; obtain ⟨A1, c1, rfl, hc1, h1⟩ := k.out
  have := N5.cmp_calls A0 A1 c0 c1 x y w h0 h1
  rw [cmpI_gt (by omega)] at this
  exact this.mono tells_drew
theorem nCmpEq (h : Nm w u x a) (k : Nm w v y b) (hxy : x = y) : Calls Try.prog 24 #[u, v] w (Tells w (.int .i64 (0))) := by
  obtain ⟨A0, c0, rfl, hc0, h0⟩ := h.out; obtain ⟨A1, c1, rfl, hc1, h1⟩ := k.out
  have := N5.cmp_calls A0 A1 c0 c1 x y w h0 h1
  rw [cmpI_eq (by omega)] at this
  exact this.mono tells_drew
theorem nLen (h : Nm w u x a) {m : Nat} (hm : blen x = m) : Calls Try.prog 26 #[u] w (Tells w (.int .i64 (m : Int))) := by
  obtain ⟨A0, c0, rfl, hc0, h0⟩ := h.out
  subst hm
  exact (N6.natLen_calls A0 c0 x w h0).mono tells_quiet
theorem nShl (h : Nm w u x a) (ha : a ≤ 20000) {k : Int} {kn : Nat} (hk : kn = k.toNat) (hkn : kn ≤ 20000) : Calls Try.prog 28 #[u, .int .i64 k] w (Makes w (x * 2 ^ kn) (a + kn + 1)) := by
  obtain ⟨A0, c0, rfl, hc0, h0⟩ := h.out
  exact (N9.shl_calls A0 c0 x kn k w h0 hc0 (by have := h.len; omega) hk (by omega)).mono (makes_of (len_shl kn h.len))
theorem nShr (h : Nm w u x a) (ha : a ≤ 20000) {k : Int} {kn : Nat} (hk : kn = k.toNat) (hkn : kn ≤ 20000) : Calls Try.prog 30 #[u, .int .i64 k] w (Makes w (x / 2 ^ kn) a) := by
  obtain ⟨A0, c0, rfl, hc0, h0⟩ := h.out
  exact (Na.shr_calls A0 c0 x kn k w h0 hc0 (by have := h.len; omega) hk (by omega)).mono (makes_of (len_le (Nat.div_le_self _ _) h.len))
theorem nRoot (h : Nm w u x a) (ha : a ≤ 4000) : Calls Try.prog 32 #[u] w (Makes w (rootN x) a) := by
  obtain ⟨A0, c0, rfl, hc0, h0⟩ := h.out
  exact (Nc.root_calls A0 c0 x w h0 hc0 (by have := h.len; omega)).mono (makes_of (len_le (rootN_self x) h.len))
theorem nInt (h : Nm w u x a) (hx : blen x ≤ 62) : Calls Try.prog 18 #[u] w (Tells w (.tuple #[.int .i64 (x : Int), .bool true])) := by
  obtain ⟨A0, c0, rfl, hc0, h0⟩ := h.out
  exact (Nd.intYes_calls A0 c0 x w h0 hx).mono fun _ _ h => h
theorem nIntNo (h : Nm w u x a) (hx : 62 < blen x) : Calls Try.prog 18 #[u] w (Tells w (.tuple #[.int .i64 0, .bool false])) := by
  obtain ⟨A0, c0, rfl, hc0, h0⟩ := h.out
  exact (Nd.intNo_calls A0 c0 x w h0 hx).mono fun _ _ h => h
theorem nOf {n : Int} {N : Nat} (hN : N = n.toNat) (h1 : n ≤ 9223372036854775807) (hl : (digs N).length ≤ a) : Calls Try.prog 13 #[.int .i64 n] w (Makes w N a) :=
  (R2.natOf_calls n N w hN h1).mono (makes_of hl)
theorem nRight (h : Nm w u x a) (ha : a ≤ 300) : Calls Try.prog 10 #[u] w (Tells w (.bool true)) := by
  obtain ⟨A0, c0, rfl, hc0, h0⟩ := h.out
  have := N7.right_calls A0 c0 (digs x) w h0
  rw [(N7.natB_iff _).2 ⟨digs_can x, by have := h.len; omega⟩] at this
  exact this.mono tells_quiet
theorem rAdd (h : Nm w u x a) (k : Nm w v y b) (ha : a ≤ 20000) (hb : b ≤ 20000) : Calls Try.prog 21 #[u, v] w (Makes w (x + y) (a + b + 1)) := by
  obtain ⟨A0, c0, rfl, hc0, h0⟩ := h.out; obtain ⟨A1, c1, rfl, hc1, h1⟩ := k.out
  exact (R4.add_calls A0 A1 c0 c1 x y w h0 h1 (by have := h.len; omega) (by have := k.len; omega)).mono (makes_of (len_add h.len k.len))
theorem rMul (h : Nm w u x a) (k : Nm w v y b) (ha : a ≤ 20000) (hb : b ≤ 20000) : Calls Try.prog 23 #[u, v] w (Makes w (x * y) (a + b)) := by
  obtain ⟨A0, c0, rfl, hc0, h0⟩ := h.out; obtain ⟨A1, c1, rfl, hc1, h1⟩ := k.out
  exact (R6.mul_calls A0 A1 c0 c1 x y w h0 h1 (by have := h.len; omega) (by have := k.len; omega)).mono (makes_of (len_mul h.len k.len))
theorem rSub (h : Nm w u x a) (k : Nm w v y b) (ha : a ≤ 20000) (hyx : y ≤ x) : Calls Try.prog 17 #[u, v] w (MakesYes w (x - y) a) := by
  obtain ⟨A0, c0, rfl, hc0, h0⟩ := h.out; obtain ⟨A1, c1, rfl, hc1, h1⟩ := k.out
  exact (R5.sub_calls A0 A1 c0 c1 x y w h0 h1 (by have := h.len; omega) hyx).mono (makesYes_of (len_le (Nat.sub_le _ _) h.len))
theorem rSubNo (h : Nm w u x a) (k : Nm w v y b) (hxy : x < y) : Calls Try.prog 17 #[u, v] w (Tells w (.tuple #[.slice none 0 0, .bool false])) := by
  obtain ⟨A0, c0, rfl, hc0, h0⟩ := h.out; obtain ⟨A1, c1, rfl, hc1, h1⟩ := k.out
  exact (R5.subNo_calls A0 A1 c0 c1 x y w h0 h1 hxy).mono fun _ _ h => h
theorem rCmpLt (h : Nm w u x a) (k : Nm w v y b) (hxy : x < y) : Calls Try.prog 25 #[u, v] w (Tells w (.int .i64 (-1))) := by
  obtain ⟨A0, c0, rfl, hc0, h0⟩ := h.out; obtain ⟨A1, c1, rfl, hc1, h1⟩ := k.out
  have := R3.cmp_calls A0 A1 c0 c1 x y w h0 h1
  rw [cmpI_lt (by omega)] at this
  exact this.mono tells_drew
theorem rCmpGt (h : Nm w u x a) (k : Nm w v y b) (hxy : y < x) : Calls Try.prog 25 #[u, v] w (Tells w (.int .i64 (1))) := by
  obtain ⟨A0, c0, rfl, hc0, h0⟩ := h.out; obtain ⟨A1, c1, rfl, hc1, h1⟩ := k.out
  have := R3.cmp_calls A0 A1 c0 c1 x y w h0 h1
  rw [cmpI_gt (by omega)] at this
  exact this.mono tells_drew
theorem rCmpEq (h : Nm w u x a) (k : Nm w v y b) (hxy : x = y) : Calls Try.prog 25 #[u, v] w (Tells w (.int .i64 (0))) := by
  obtain ⟨A0, c0, rfl, hc0, h0⟩ := h.out; obtain ⟨A1, c1, rfl, hc1, h1⟩ := k.out
  have := R3.cmp_calls A0 A1 c0 c1 x y w h0 h1
  rw [cmpI_eq (by omega)] at this
  exact this.mono tells_drew
theorem rLen (h : Nm w u x a) {m : Nat} (hm : blen x = m) : Calls Try.prog 27 #[u] w (Tells w (.int .i64 (m : Int))) := by
  obtain ⟨A0, c0, rfl, hc0, h0⟩ := h.out
  subst hm
  exact (R3.len_calls A0 c0 x w h0).mono tells_quiet
theorem rShl (h : Nm w u x a) (ha : a ≤ 20000) {k : Int} {kn : Nat} (hk : kn = k.toNat) (hkn : kn ≤ 20000) : Calls Try.prog 29 #[u, .int .i64 k] w (Makes w (x * 2 ^ kn) (a + kn + 1)) := by
  obtain ⟨A0, c0, rfl, hc0, h0⟩ := h.out
  exact (R7.shl_calls A0 c0 x kn k w h0 hc0 (by have := h.len; omega) hk (by omega)).mono (makes_of (len_shl kn h.len))
theorem rShr (h : Nm w u x a) (ha : a ≤ 20000) {k : Int} {kn : Nat} (hk : kn = k.toNat) (hkn : kn ≤ 20000) : Calls Try.prog 31 #[u, .int .i64 k] w (Makes w (x / 2 ^ kn) a) := by
  obtain ⟨A0, c0, rfl, hc0, h0⟩ := h.out
  exact (R7.shr_calls A0 c0 x kn k w h0 hc0 (by have := h.len; omega) hk (by omega)).mono (makes_of (len_le (Nat.div_le_self _ _) h.len))
theorem rRoot (h : Nm w u x a) (ha : a ≤ 4000) : Calls Try.prog 33 #[u] w (Makes w (rootN x) a) := by
  obtain ⟨A0, c0, rfl, hc0, h0⟩ := h.out
  exact (R8.root_calls A0 c0 x w h0 hc0 (by have := h.len; omega)).mono (makes_of (len_le (rootN_self x) h.len))
theorem rInt (h : Nm w u x a) (hx : blen x ≤ 62) : Calls Try.prog 19 #[u] w (Tells w (.tuple #[.int .i64 (x : Int), .bool true])) := by
  obtain ⟨A0, c0, rfl, hc0, h0⟩ := h.out
  exact (R4.intYes_calls A0 c0 x w h0 hx).mono tells_quiet
theorem rIntNo (h : Nm w u x a) (hx : 62 < blen x) : Calls Try.prog 19 #[u] w (Tells w (.tuple #[.int .i64 0, .bool false])) := by
  obtain ⟨A0, c0, rfl, hc0, h0⟩ := h.out
  exact (R4.intNo_calls A0 c0 x w h0 hx).mono tells_quiet
theorem rOf {n : Int} {N : Nat} (hN : N = n.toNat) (h1 : n ≤ 9223372036854775807) (hl : (digs N).length ≤ a) : Calls Try.prog 14 #[.int .i64 n] w (Makes w N a) :=
  (R2.refOf_calls n N w hN h1).mono (makes_of hl)
theorem rRight (h : Nm w u x a) (ha : a ≤ 300) : Calls Try.prog 11 #[u] w (Tells w (.bool true)) := by
  obtain ⟨A0, c0, rfl, hc0, h0⟩ := h.out
  have := R3.right_calls A0 c0 (digs x) w h0
  rw [(N7.natB_iff _).2 ⟨digs_can x, by have := h.len; omega⟩] at this
  exact this.mono tells_quiet
theorem same (h : Nm w u x a) (k : Nm w v y b) (hxy : x = y) : Calls Try.prog 12 #[u, v] w (Tells w (.bool true)) := by
  obtain ⟨A0, c0, rfl, hc0, h0⟩ := h.out; obtain ⟨A1, c1, rfl, hc1, h1⟩ := k.out
  subst hxy
  have := R2.same_calls A0 A1 c0 c1 _ _ w h0 h1
  rw [R2.sameB_self] at this
  exact this.mono tells_drew
theorem sameNo (h : Nm w u x a) (k : Nm w v y b) (hxy : x ≠ y) : Calls Try.prog 12 #[u, v] w (Tells w (.bool false)) := by
  obtain ⟨A0, c0, rfl, hc0, h0⟩ := h.out; obtain ⟨A1, c1, rfl, hc1, h1⟩ := k.out
  have := R2.same_calls A0 A1 c0 c1 _ _ w h0 h1
  rw [show R2.sameB (digs x) (digs y) = false from decide_eq_false (fun e => hxy (digs_inj e))] at this
  exact this.mono tells_drew
/-- A row of one place that is no natural's. -/
theorem nRightLit {i : Int} (h : N7.natB [i] = false) : Calls Try.prog 10 #[.slice (some ⟨w.heap.size, 0, none⟩) 1 1] (w.alloc (.cells #[.int .i64 i] 3)) (Tells (w.alloc (.cells #[.int .i64 i] 3)) (.bool false)) := by
  have := N7.right_calls (some ⟨w.heap.size, 0, none⟩) 1 [i] _ ((Blk.new w (ints [i]) 3).rd (by simp))
  rw [h] at this
  exact this.mono tells_quiet
end Go.Proofs.Ytpgdiebmdcbgfaa.L2
