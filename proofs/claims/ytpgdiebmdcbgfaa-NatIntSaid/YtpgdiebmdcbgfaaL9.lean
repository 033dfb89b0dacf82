/-
  The walk of NatInt (its steps are printed by gen_law.py).
-/
import Derived.Test.YtpgdiebmdcbgfaaL5
set_option linter.unusedVariables false
set_option linter.unusedSimpArgs false
namespace Go.Proofs.Ytpgdiebmdcbgfaa.L9
open Go.RowKit Go.Proofs.Ytpgdiebmdcbgfaa Go.Proofs.Ytpgdiebmdcbgfaa.Ow Go.Proofs.Ytpgdiebmdcbgfaa.Pl Go.Proofs.Ytpgdiebmdcbgfaa.L2 Go.Proofs.Ytpgdiebmdcbgfaa.L5

theorem of_len {m : Int} (h : m ≤ 9223372036854775807) : (digs m.toNat).length ≤ 3 :=
  digs_len_le.2 (Nat.lt_of_le_of_lt (show m.toNat ≤ 9223372036854775807 by omega) (by decide))
theorem of_len2 {m : Int} (h : m ≤ 1073741824) : (digs m.toNat).length ≤ 2 :=
  digs_len_le.2 (Nat.lt_of_le_of_lt (show m.toNat ≤ 1073741824 by omega) (by decide))
theorem blen62 {x : Nat} (h : x < 4611686018427387904) : blen x ≤ 62 := blen_le.2 h
theorem blen63 {x : Nat} (h : 4611686018427387904 ≤ x) : 62 < blen x := Nat.lt_of_not_le (fun k => absurd (blen_le.1 k) (Nat.not_lt.2 h))
set_option maxHeartbeats 4000000 in
theorem i1 (m n : Int) (w : World) (hm : m ≤ 9223372036854775807) (h1 : m < 0) :
    Calls Try.prog 8 #[.int .i64 m, .int .i64 n] w (Tells w (.bool true)) := by
  go_enter Try.func8, Try.ntmps8
  go_wp2_with fail
  (with_reducible refine (L3.head_calls _).mono ?_); rintro e w1 ⟨rfl, b1⟩
  go_wp2_with fail
  (with_reducible refine (nOf (N := m.toNat) (n := m) (a := 3) rfl (by omega) (of_len (by omega))).mono ?_); rintro e w2 ⟨v2, rfl, n2, b2⟩
  go_wp2_with fail
  (with_reducible refine (nIntV n2 (blen62 (by omega)) (i := 0) (by omega)).mono ?_); rintro e w3 ⟨rfl, b3⟩
  go_wp2_with fail
  go_ret
  exact ⟨rfl, ((((Bel.refl _).trans b1).trans b2).trans b3)⟩
set_option maxHeartbeats 4000000 in
theorem i2 (m n : Int) (w : World) (h0 : 0 ≤ m) (h1 : n < 0) (h2 : m < 4611686018427387904) :
    Calls Try.prog 8 #[.int .i64 m, .int .i64 n] w (Tells w (.bool true)) := by
  go_enter Try.func8, Try.ntmps8
  go_wp2_with fail
  (with_reducible refine (L3.head_calls _).mono ?_); rintro e w1 ⟨rfl, b1⟩
  go_wp2_with fail
  (with_reducible refine (nOf (N := m.toNat) (n := m) (a := 3) rfl (by omega) (of_len (by omega))).mono ?_); rintro e w2 ⟨v2, rfl, n2, b2⟩
  go_wp2_with fail
  (with_reducible refine (nIntV n2 (blen62 (by omega)) (i := m) (by omega)).mono ?_); rintro e w3 ⟨rfl, b3⟩
  go_wp2_with fail
  go_ret
  exact ⟨rfl, ((((Bel.refl _).trans b1).trans b2).trans b3)⟩
set_option maxHeartbeats 4000000 in
theorem i3 (m n : Int) (w : World) (hm : m ≤ 9223372036854775807) (h1 : n < 0) (h2 : 4611686018427387904 ≤ m) :
    Calls Try.prog 8 #[.int .i64 m, .int .i64 n] w (Tells w (.bool true)) := by
  go_enter Try.func8, Try.ntmps8
  go_wp2_with fail
  (with_reducible refine (L3.head_calls _).mono ?_); rintro e w1 ⟨rfl, b1⟩
  go_wp2_with fail
  (with_reducible refine (nOf (N := m.toNat) (n := m) (a := 3) rfl (by omega) (of_len (by omega))).mono ?_); rintro e w2 ⟨v2, rfl, n2, b2⟩
  go_wp2_with fail
  (with_reducible refine (nIntNo n2 (blen63 (by omega))).mono ?_); rintro e w3 ⟨rfl, b3⟩
  go_wp2_with fail
  go_ret
  exact ⟨rfl, ((((Bel.refl _).trans b1).trans b2).trans b3)⟩
set_option maxHeartbeats 4000000 in
theorem i4 (m n : Int) (w : World) (h1 : 0 ≤ n) (h0 : 1073741824 < m) (h2 : m < 4611686018427387904) :
    Calls Try.prog 8 #[.int .i64 m, .int .i64 n] w (Tells w (.bool true)) := by
  go_enter Try.func8, Try.ntmps8
  go_wp2_with fail
  (with_reducible refine (L3.head_calls _).mono ?_); rintro e w1 ⟨rfl, b1⟩
  go_wp2_with fail
  (with_reducible refine (nOf (N := m.toNat) (n := m) (a := 3) rfl (by omega) (of_len (by omega))).mono ?_); rintro e w2 ⟨v2, rfl, n2, b2⟩
  go_wp2_with fail
  (with_reducible refine (nIntV n2 (blen62 (by omega)) (i := m) (by omega)).mono ?_); rintro e w3 ⟨rfl, b3⟩
  go_wp2_with fail
  go_ret
  exact ⟨rfl, ((((Bel.refl _).trans b1).trans b2).trans b3)⟩
set_option maxHeartbeats 4000000 in
theorem i5 (m n : Int) (w : World) (hm : m ≤ 9223372036854775807) (h1 : 0 ≤ n) (h2 : 4611686018427387904 ≤ m) :
    Calls Try.prog 8 #[.int .i64 m, .int .i64 n] w (Tells w (.bool true)) := by
  go_enter Try.func8, Try.ntmps8
  go_wp2_with fail
  (with_reducible refine (L3.head_calls _).mono ?_); rintro e w1 ⟨rfl, b1⟩
  go_wp2_with fail
  (with_reducible refine (nOf (N := m.toNat) (n := m) (a := 3) rfl (by omega) (of_len (by omega))).mono ?_); rintro e w2 ⟨v2, rfl, n2, b2⟩
  go_wp2_with fail
  (with_reducible refine (nIntNo n2 (blen63 (by omega))).mono ?_); rintro e w3 ⟨rfl, b3⟩
  go_wp2_with fail
  go_ret
  exact ⟨rfl, ((((Bel.refl _).trans b1).trans b2).trans b3)⟩
set_option maxHeartbeats 4000000 in
theorem i6 (m n : Int) (w : World) (h0 : 0 ≤ m) (h1 : m ≤ 1073741824) (h2 : 1073741824 < n) :
    Calls Try.prog 8 #[.int .i64 m, .int .i64 n] w (Tells w (.bool true)) := by
  go_enter Try.func8, Try.ntmps8
  go_wp2_with fail
  (with_reducible refine (L3.head_calls _).mono ?_); rintro e w1 ⟨rfl, b1⟩
  go_wp2_with fail
  (with_reducible refine (nOf (N := m.toNat) (n := m) (a := 3) rfl (by omega) (of_len (by omega))).mono ?_); rintro e w2 ⟨v2, rfl, n2, b2⟩
  go_wp2_with fail
  (with_reducible refine (nIntV n2 (blen62 (by omega)) (i := m) (by omega)).mono ?_); rintro e w3 ⟨rfl, b3⟩
  go_wp2_with fail
  go_ret
  exact ⟨rfl, ((((Bel.refl _).trans b1).trans b2).trans b3)⟩
set_option maxHeartbeats 4000000 in
theorem j1 (m n : Int) (w : World) (h0 : 0 ≤ m) (h1 : m ≤ 1073741824) (h2 : 0 ≤ n) (h3 : n ≤ 1073741824) (hp0 : 0 ≤ m * n) (hp1 : m * n ≤ 1152921504606846976) (HPB : Ho (blen (m.toNat * n.toNat) ≤ 62)) (HP : Ho (((m.toNat * n.toNat : Nat) : Int) = m * n)) (hc : m < n) :
    Calls Try.prog 8 #[.int .i64 m, .int .i64 n] w (Tells w (.bool true)) := by
  go_enter Try.func8, Try.ntmps8
  go_wp2_with fail
  (with_reducible refine (L3.head_calls _).mono ?_); rintro e w1 ⟨rfl, b1⟩
  go_wp2_with fail
  (with_reducible refine (nOf (N := m.toNat) (n := m) (a := 2) rfl (by omega) (of_len2 (by omega))).mono ?_); rintro e w2 ⟨v2, rfl, n2, b2⟩
  go_wp2_with fail
  (with_reducible refine (nOf (N := n.toNat) (n := n) (a := 2) rfl (by omega) (of_len2 (by omega))).mono ?_); rintro e w3 ⟨v3, rfl, n3, b3⟩
  go_wp2_with fail
  (with_reducible refine (nAdd (n2.bel ((Bel.refl _).trans b3)) n3 (by omega) (by omega)).mono ?_); rintro e w4 ⟨v4, rfl, n4, b4⟩
  go_wp2_with fail
  (with_reducible refine (nIntV n4 (blen62 (by omega)) (i := m + n) (by omega)).mono ?_); rintro e w5 ⟨rfl, b5⟩
  go_wp2_with fail
  (with_reducible refine (nMul (n2.bel ((((Bel.refl _).trans b3).trans b4).trans b5)) (n3.bel (((Bel.refl _).trans b4).trans b5)) (by omega) (by omega)).mono ?_); rintro e w6 ⟨v6, rfl, n6, b6⟩
  go_wp2_with fail
  (with_reducible refine (nIntV n6 HPB.out (i := m * n) HP.out).mono ?_); rintro e w7 ⟨rfl, b7⟩
  go_wp2_with fail
  (with_reducible refine (nCmpLt (n2.bel ((((((Bel.refl _).trans b3).trans b4).trans b5).trans b6).trans b7)) (n3.bel (((((Bel.refl _).trans b4).trans b5).trans b6).trans b7)) (by omega)).mono ?_); rintro e w8 ⟨rfl, b8⟩
  go_wp2_with fail
  (with_reducible refine (rRight (n2.bel (((((((Bel.refl _).trans b3).trans b4).trans b5).trans b6).trans b7).trans b8)) (by omega)).mono ?_); rintro e w9 ⟨rfl, b9⟩
  go_wp2_with fail
  go_ret
  exact ⟨rfl, ((((((((((Bel.refl _).trans b1).trans b2).trans b3).trans b4).trans b5).trans b6).trans b7).trans b8).trans b9)⟩
set_option maxHeartbeats 4000000 in
theorem j2 (m n : Int) (w : World) (h0 : 0 ≤ m) (h1 : m ≤ 1073741824) (h2 : 0 ≤ n) (h3 : n ≤ 1073741824) (hp0 : 0 ≤ m * n) (hp1 : m * n ≤ 1152921504606846976) (HPB : Ho (blen (m.toNat * n.toNat) ≤ 62)) (HP : Ho (((m.toNat * n.toNat : Nat) : Int) = m * n)) (hc : m ≤ n) (hd : n ≤ m) :
    Calls Try.prog 8 #[.int .i64 m, .int .i64 n] w (Tells w (.bool true)) := by
  go_enter Try.func8, Try.ntmps8
  go_wp2_with fail
  (with_reducible refine (L3.head_calls _).mono ?_); rintro e w1 ⟨rfl, b1⟩
  go_wp2_with fail
  (with_reducible refine (nOf (N := m.toNat) (n := m) (a := 2) rfl (by omega) (of_len2 (by omega))).mono ?_); rintro e w2 ⟨v2, rfl, n2, b2⟩
  go_wp2_with fail
  (with_reducible refine (nOf (N := n.toNat) (n := n) (a := 2) rfl (by omega) (of_len2 (by omega))).mono ?_); rintro e w3 ⟨v3, rfl, n3, b3⟩
  go_wp2_with fail
  (with_reducible refine (nAdd (n2.bel ((Bel.refl _).trans b3)) n3 (by omega) (by omega)).mono ?_); rintro e w4 ⟨v4, rfl, n4, b4⟩
  go_wp2_with fail
  (with_reducible refine (nIntV n4 (blen62 (by omega)) (i := m + n) (by omega)).mono ?_); rintro e w5 ⟨rfl, b5⟩
  go_wp2_with fail
  (with_reducible refine (nMul (n2.bel ((((Bel.refl _).trans b3).trans b4).trans b5)) (n3.bel (((Bel.refl _).trans b4).trans b5)) (by omega) (by omega)).mono ?_); rintro e w6 ⟨v6, rfl, n6, b6⟩
  go_wp2_with fail
  (with_reducible refine (nIntV n6 HPB.out (i := m * n) HP.out).mono ?_); rintro e w7 ⟨rfl, b7⟩
  go_wp2_with fail
  (with_reducible refine (nCmpEq (n2.bel ((((((Bel.refl _).trans b3).trans b4).trans b5).trans b6).trans b7)) (n3.bel (((((Bel.refl _).trans b4).trans b5).trans b6).trans b7)) (by omega)).mono ?_); rintro e w8 ⟨rfl, b8⟩
  go_wp2_with fail
  (with_reducible refine (rRight (n2.bel (((((((Bel.refl _).trans b3).trans b4).trans b5).trans b6).trans b7).trans b8)) (by omega)).mono ?_); rintro e w9 ⟨rfl, b9⟩
  go_wp2_with fail
  go_ret
  exact ⟨rfl, ((((((((((Bel.refl _).trans b1).trans b2).trans b3).trans b4).trans b5).trans b6).trans b7).trans b8).trans b9)⟩
set_option maxHeartbeats 4000000 in
theorem j3 (m n : Int) (w : World) (h0 : 0 ≤ m) (h1 : m ≤ 1073741824) (h2 : 0 ≤ n) (h3 : n ≤ 1073741824) (hp0 : 0 ≤ m * n) (hp1 : m * n ≤ 1152921504606846976) (HPB : Ho (blen (m.toNat * n.toNat) ≤ 62)) (HP : Ho (((m.toNat * n.toNat : Nat) : Int) = m * n)) (hc : n < m) :
    Calls Try.prog 8 #[.int .i64 m, .int .i64 n] w (Tells w (.bool true)) := by
  go_enter Try.func8, Try.ntmps8
  go_wp2_with fail
  (with_reducible refine (L3.head_calls _).mono ?_); rintro e w1 ⟨rfl, b1⟩
  go_wp2_with fail
  (with_reducible refine (nOf (N := m.toNat) (n := m) (a := 2) rfl (by omega) (of_len2 (by omega))).mono ?_); rintro e w2 ⟨v2, rfl, n2, b2⟩
  go_wp2_with fail
  (with_reducible refine (nOf (N := n.toNat) (n := n) (a := 2) rfl (by omega) (of_len2 (by omega))).mono ?_); rintro e w3 ⟨v3, rfl, n3, b3⟩
  go_wp2_with fail
  (with_reducible refine (nAdd (n2.bel ((Bel.refl _).trans b3)) n3 (by omega) (by omega)).mono ?_); rintro e w4 ⟨v4, rfl, n4, b4⟩
  go_wp2_with fail
  (with_reducible refine (nIntV n4 (blen62 (by omega)) (i := m + n) (by omega)).mono ?_); rintro e w5 ⟨rfl, b5⟩
  go_wp2_with fail
  (with_reducible refine (nMul (n2.bel ((((Bel.refl _).trans b3).trans b4).trans b5)) (n3.bel (((Bel.refl _).trans b4).trans b5)) (by omega) (by omega)).mono ?_); rintro e w6 ⟨v6, rfl, n6, b6⟩
  go_wp2_with fail
  (with_reducible refine (nIntV n6 HPB.out (i := m * n) HP.out).mono ?_); rintro e w7 ⟨rfl, b7⟩
  go_wp2_with fail
  (with_reducible refine (nCmpGt (n2.bel ((((((Bel.refl _).trans b3).trans b4).trans b5).trans b6).trans b7)) (n3.bel (((((Bel.refl _).trans b4).trans b5).trans b6).trans b7)) (by omega)).mono ?_); rintro e w8 ⟨rfl, b8⟩
  go_wp2_with fail
  (with_reducible refine (rRight (n2.bel (((((((Bel.refl _).trans b3).trans b4).trans b5).trans b6).trans b7).trans b8)) (by omega)).mono ?_); rintro e w9 ⟨rfl, b9⟩
  go_wp2_with fail
  go_ret
  exact ⟨rfl, ((((((((((Bel.refl _).trans b1).trans b2).trans b3).trans b4).trans b5).trans b6).trans b7).trans b8).trans b9)⟩
theorem natInt_calls (m n : Int) (w : World) (hm : m ≤ 9223372036854775807) : Calls Try.prog 8 #[.int .i64 m, .int .i64 n] w (Tells w (.bool true)) := by
  rcases Int.lt_or_le m 0 with a1 | a1
  · exact i1 m n w hm a1
  rcases Int.lt_or_le n 0 with a2 | a2
  · rcases Int.lt_or_le m 4611686018427387904 with a3 | a3
    · exact i2 m n w a1 a2 a3
    · exact i3 m n w hm a2 a3
  rcases Int.lt_or_le 1073741824 m with a4 | a4
  · rcases Int.lt_or_le m 4611686018427387904 with a3 | a3
    · exact i4 m n w a2 a4 a3
    · exact i5 m n w hm a2 a3
  rcases Int.lt_or_le 1073741824 n with a5 | a5
  · exact i6 m n w a1 a4 a5
  have hp0 : 0 ≤ m * n := Int.mul_nonneg a1 a2
  have hp1 : m * n ≤ 1152921504606846976 := by
    have h1 : m * n ≤ 1073741824 * n := Int.mul_le_mul_of_nonneg_right a4 a2
    omega
  have HP : ((m.toNat * n.toNat : Nat) : Int) = m * n := by
    rw [Int.natCast_mul, Int.toNat_of_nonneg a1, Int.toNat_of_nonneg a2]
  have HPB : blen (m.toNat * n.toNat) ≤ 62 := blen62 (by omega)
  rcases Int.lt_or_le m n with a6 | a6
  · exact j1 m n w a1 a4 a2 a5 hp0 hp1 ⟨HPB⟩ ⟨HP⟩ a6
  rcases Int.lt_or_le n m with a7 | a7
  · exact j3 m n w a1 a4 a2 a5 hp0 hp1 ⟨HPB⟩ ⟨HP⟩ a7
  · exact j2 m n w a1 a4 a2 a5 hp0 hp1 ⟨HPB⟩ ⟨HP⟩ a7 a6
end Go.Proofs.Ytpgdiebmdcbgfaa.L9
