/-
  The walk of NatShift (its steps are printed by gen_law.py).
-/
import Derived.Test.YtpgdiebmdcbgfaaL5
set_option linter.unusedVariables false
set_option linter.unusedSimpArgs false
namespace Go.Proofs.Ytpgdiebmdcbgfaa.L8
open Go.RowKit Go.Proofs.Ytpgdiebmdcbgfaa Go.Proofs.Ytpgdiebmdcbgfaa.Ow Go.Proofs.Ytpgdiebmdcbgfaa.Pl Go.Proofs.Ytpgdiebmdcbgfaa.L2 Go.Proofs.Ytpgdiebmdcbgfaa.L5

theorem great1_of {w : World} {A0 : Option Addr} (c0 : Nat) {l0 : List Int} (h0 : Rd w A0 l0) (W : World) (g : Bel w W) :
    Calls Try.prog 15 #[.slice (some ⟨W.heap.size, 0, none⟩) 1 1] (W.alloc (.cells #[.slice A0 l0.length c0] 22)) fun e w' => e = .returned (.bool (([⟨A0, c0, l0⟩] : List L1.Row).any fun r => L1.bad r.l)) ∧ W.alloc (.cells #[.slice A0 l0.length c0] 22) = w' :=
  L1.great_calls W.heap.size 1 [⟨A0, c0, l0⟩] _ rfl (by decide) (Blk.new W [.slice A0 l0.length c0] 22) (by
    intro r hr
    simp only [List.mem_cons, List.not_mem_nil, or_false] at hr
    subst hr
    · exact (h0.bel g).bel ((Bel.refl _).alloc _)
    )

set_option maxRecDepth 100000 in
set_option maxHeartbeats 4000000 in
theorem shiftZ (A0 : Option Addr) (c0 x : Nat) (kn : Nat) (hkn : kn ≤ 255) (w : World) (p0 : Nm w (.slice A0 (digs x).length c0) x 30) (hlb : (((digs x).length : Int) == 0) = true)
    (HG : Ho (∀ W, Bel w W → Calls Try.prog 15 #[.slice (some ⟨W.heap.size, 0, none⟩) 1 1] (W.alloc (.cells #[.slice A0 (digs x).length c0] 22)) fun e w' => e = .returned (.bool false) ∧ W.alloc (.cells #[.slice A0 (digs x).length c0] 22) = w')) :
    Calls Try.prog 6 #[.slice A0 (digs x).length c0, .int .u8 (kn : Int)] w (Tells w (.bool true)) := by
  go_enter Try.func6, Try.ntmps6
  go_wp2_with fail
  (with_reducible refine (L3.head_calls _).mono ?_); rintro e w1 ⟨rfl, b1⟩
  go_wp2_with fail
  (with_reducible refine ((HG.out w1 b1).mono tells_quiet).mono ?_); rintro e w2 ⟨rfl, b2⟩
  go_wp2_with fail
  (with_reducible refine (nShl (L2.Nm.lit1 1 (i := 1) rfl (by decide) (by decide)) (by omega) (kn := kn) (Int.toNat_natCast kn).symm (by omega)).mono ?_); rintro e w3 ⟨v3, rfl, n3, b3⟩
  go_wp2_with fail
  (with_reducible refine (nShl (p0.bel ((((((Bel.refl _).trans b1).alloc _).trans b2).alloc _).trans b3)) (by omega) (kn := kn) (Int.toNat_natCast kn).symm (by omega)).mono ?_); rintro e w4 ⟨v4, rfl, n4, b4⟩
  go_wp2_with fail
  (with_reducible refine (nShr (p0.bel (((((((Bel.refl _).trans b1).alloc _).trans b2).alloc _).trans b3).trans b4)) (by omega) (kn := kn) (Int.toNat_natCast kn).symm (by omega)).mono ?_); rintro e w5 ⟨v5, rfl, n5, b5⟩
  go_wp2_with fail
  (with_reducible refine (rRight (n4.bel ((Bel.refl _).trans b5)) (by omega)).mono ?_); rintro e w6 ⟨rfl, b6⟩
  go_wp2_with fail
  (with_reducible refine (rRight (n5.bel ((Bel.refl _).trans b6)) (by omega)).mono ?_); rintro e w7 ⟨rfl, b7⟩
  go_wp2_with fail
  (with_reducible refine (rRight (n3.bel (((((Bel.refl _).trans b4).trans b5).trans b6).trans b7)) (by omega)).mono ?_); rintro e w8 ⟨rfl, b8⟩
  go_wp2_with fail
  (with_reducible refine (nLenI (n3.bel ((((((Bel.refl _).trans b4).trans b5).trans b6).trans b7).trans b8)) (m := (kn : Int) + 1) (by rw [blen_p2]; omega)).mono ?_); rintro e w9 ⟨rfl, b9⟩
  go_wp2_with fail
  (with_reducible refine (nShl (n5.bel (((((Bel.refl _).trans b6).trans b7).trans b8).trans b9)) (by omega) (kn := kn) (Int.toNat_natCast kn).symm (by omega)).mono ?_); rintro e w10 ⟨v10, rfl, n10, b10⟩
  go_wp2_with fail
  (with_reducible refine (nSub (p0.bel (((((((((((((Bel.refl _).trans b1).alloc _).trans b2).alloc _).trans b3).trans b4).trans b5).trans b6).trans b7).trans b8).trans b9).trans b10)) n10 (by omega) (Nat.div_mul_le_self _ _)).mono ?_); rintro e w11 ⟨v11, rfl, n11, b11⟩
  go_wp2_with fail
  (with_reducible refine (nShr (n4.bel ((((((((Bel.refl _).trans b5).trans b6).trans b7).trans b8).trans b9).trans b10).trans b11)) (by omega) (kn := kn) (Int.toNat_natCast kn).symm (by omega)).mono ?_); rintro e w12 ⟨v12, rfl, n12, b12⟩
  go_wp2_with fail
  (with_reducible refine (same n12 (p0.bel (((((((((((((((Bel.refl _).trans b1).alloc _).trans b2).alloc _).trans b3).trans b4).trans b5).trans b6).trans b7).trans b8).trans b9).trans b10).trans b11).trans b12)) (Nat.mul_div_cancel _ (Nat.two_pow_pos kn))).mono ?_); rintro e w13 ⟨rfl, b13⟩
  go_wp2_with fail
  (with_reducible refine (nMul (p0.bel ((((((((((((((((Bel.refl _).trans b1).alloc _).trans b2).alloc _).trans b3).trans b4).trans b5).trans b6).trans b7).trans b8).trans b9).trans b10).trans b11).trans b12).trans b13)) (n3.bel (((((((((((Bel.refl _).trans b4).trans b5).trans b6).trans b7).trans b8).trans b9).trans b10).trans b11).trans b12).trans b13)) (by omega) (by omega)).mono ?_); rintro e w14 ⟨v14, rfl, n14, b14⟩
  go_wp2_with fail
  (with_reducible refine (same (n4.bel (((((((((((Bel.refl _).trans b5).trans b6).trans b7).trans b8).trans b9).trans b10).trans b11).trans b12).trans b13).trans b14)) n14 (by rw [Nat.one_mul])).mono ?_); rintro e w15 ⟨rfl, b15⟩
  go_wp2_with fail
  (with_reducible refine (nCmpLt (n11.bel (((((Bel.refl _).trans b12).trans b13).trans b14).trans b15)) (n3.bel (((((((((((((Bel.refl _).trans b4).trans b5).trans b6).trans b7).trans b8).trans b9).trans b10).trans b11).trans b12).trans b13).trans b14).trans b15)) (shift_rest _ _)).mono ?_); rintro e w16 ⟨rfl, b16⟩
  go_wp2_with fail
  go_ret
  exact ⟨rfl, (((((((((((((((((((Bel.refl _).trans b1).alloc _).trans b2).alloc _).trans b3).trans b4).trans b5).trans b6).trans b7).trans b8).trans b9).trans b10).trans b11).trans b12).trans b13).trans b14).trans b15).trans b16)⟩
set_option maxRecDepth 100000 in
set_option maxHeartbeats 4000000 in
theorem shiftN (A0 : Option Addr) (c0 x : Nat) (kn : Nat) (hkn : kn ≤ 255) (w : World) (p0 : Nm w (.slice A0 (digs x).length c0) x 30) (bx : Nat) (HB : Ho (bx = blen x)) (hbx : bx ≤ 720) (HX : Ho (x ≠ 0)) (hlb : (((digs x).length : Int) == 0) = false)
    (HG : Ho (∀ W, Bel w W → Calls Try.prog 15 #[.slice (some ⟨W.heap.size, 0, none⟩) 1 1] (W.alloc (.cells #[.slice A0 (digs x).length c0] 22)) fun e w' => e = .returned (.bool false) ∧ W.alloc (.cells #[.slice A0 (digs x).length c0] 22) = w')) :
    Calls Try.prog 6 #[.slice A0 (digs x).length c0, .int .u8 (kn : Int)] w (Tells w (.bool true)) := by
  go_enter Try.func6, Try.ntmps6
  go_wp2_with fail
  (with_reducible refine (L3.head_calls _).mono ?_); rintro e w1 ⟨rfl, b1⟩
  go_wp2_with fail
  (with_reducible refine ((HG.out w1 b1).mono tells_quiet).mono ?_); rintro e w2 ⟨rfl, b2⟩
  go_wp2_with fail
  (with_reducible refine (nShl (L2.Nm.lit1 1 (i := 1) rfl (by decide) (by decide)) (by omega) (kn := kn) (Int.toNat_natCast kn).symm (by omega)).mono ?_); rintro e w3 ⟨v3, rfl, n3, b3⟩
  go_wp2_with fail
  (with_reducible refine (nShl (p0.bel ((((((Bel.refl _).trans b1).alloc _).trans b2).alloc _).trans b3)) (by omega) (kn := kn) (Int.toNat_natCast kn).symm (by omega)).mono ?_); rintro e w4 ⟨v4, rfl, n4, b4⟩
  go_wp2_with fail
  (with_reducible refine (nShr (p0.bel (((((((Bel.refl _).trans b1).alloc _).trans b2).alloc _).trans b3).trans b4)) (by omega) (kn := kn) (Int.toNat_natCast kn).symm (by omega)).mono ?_); rintro e w5 ⟨v5, rfl, n5, b5⟩
  go_wp2_with fail
  (with_reducible refine (rRight (n4.bel ((Bel.refl _).trans b5)) (by omega)).mono ?_); rintro e w6 ⟨rfl, b6⟩
  go_wp2_with fail
  (with_reducible refine (rRight (n5.bel ((Bel.refl _).trans b6)) (by omega)).mono ?_); rintro e w7 ⟨rfl, b7⟩
  go_wp2_with fail
  (with_reducible refine (rRight (n3.bel (((((Bel.refl _).trans b4).trans b5).trans b6).trans b7)) (by omega)).mono ?_); rintro e w8 ⟨rfl, b8⟩
  go_wp2_with fail
  (with_reducible refine (nLenI (n3.bel ((((((Bel.refl _).trans b4).trans b5).trans b6).trans b7).trans b8)) (m := (kn : Int) + 1) (by rw [blen_p2]; omega)).mono ?_); rintro e w9 ⟨rfl, b9⟩
  go_wp2_with fail
  (with_reducible refine (nShl (n5.bel (((((Bel.refl _).trans b6).trans b7).trans b8).trans b9)) (by omega) (kn := kn) (Int.toNat_natCast kn).symm (by omega)).mono ?_); rintro e w10 ⟨v10, rfl, n10, b10⟩
  go_wp2_with fail
  (with_reducible refine (nSub (p0.bel (((((((((((((Bel.refl _).trans b1).alloc _).trans b2).alloc _).trans b3).trans b4).trans b5).trans b6).trans b7).trans b8).trans b9).trans b10)) n10 (by omega) (Nat.div_mul_le_self _ _)).mono ?_); rintro e w11 ⟨v11, rfl, n11, b11⟩
  go_wp2_with fail
  (with_reducible refine (nShr (n4.bel ((((((((Bel.refl _).trans b5).trans b6).trans b7).trans b8).trans b9).trans b10).trans b11)) (by omega) (kn := kn) (Int.toNat_natCast kn).symm (by omega)).mono ?_); rintro e w12 ⟨v12, rfl, n12, b12⟩
  go_wp2_with fail
  (with_reducible refine (same n12 (p0.bel (((((((((((((((Bel.refl _).trans b1).alloc _).trans b2).alloc _).trans b3).trans b4).trans b5).trans b6).trans b7).trans b8).trans b9).trans b10).trans b11).trans b12)) (Nat.mul_div_cancel _ (Nat.two_pow_pos kn))).mono ?_); rintro e w13 ⟨rfl, b13⟩
  go_wp2_with fail
  (with_reducible refine (nMul (p0.bel ((((((((((((((((Bel.refl _).trans b1).alloc _).trans b2).alloc _).trans b3).trans b4).trans b5).trans b6).trans b7).trans b8).trans b9).trans b10).trans b11).trans b12).trans b13)) (n3.bel (((((((((((Bel.refl _).trans b4).trans b5).trans b6).trans b7).trans b8).trans b9).trans b10).trans b11).trans b12).trans b13)) (by omega) (by omega)).mono ?_); rintro e w14 ⟨v14, rfl, n14, b14⟩
  go_wp2_with fail
  (with_reducible refine (same (n4.bel (((((((((((Bel.refl _).trans b5).trans b6).trans b7).trans b8).trans b9).trans b10).trans b11).trans b12).trans b13).trans b14)) n14 (by rw [Nat.one_mul])).mono ?_); rintro e w15 ⟨rfl, b15⟩
  go_wp2_with fail
  (with_reducible refine (nCmpLt (n11.bel (((((Bel.refl _).trans b12).trans b13).trans b14).trans b15)) (n3.bel (((((((((((((Bel.refl _).trans b4).trans b5).trans b6).trans b7).trans b8).trans b9).trans b10).trans b11).trans b12).trans b13).trans b14).trans b15)) (shift_rest _ _)).mono ?_); rintro e w16 ⟨rfl, b16⟩
  go_wp2_with fail
  (with_reducible refine (nLenI (n4.bel (((((((((((((Bel.refl _).trans b5).trans b6).trans b7).trans b8).trans b9).trans b10).trans b11).trans b12).trans b13).trans b14).trans b15).trans b16)) (m := (bx : Int) + kn) (by rw [blen_shl kn HX.out, HB.out]; exact Int.natCast_add _ _)).mono ?_); rintro e w17 ⟨rfl, b17⟩
  go_wp2_with fail
  (with_reducible refine (nLenI (p0.bel ((((((((((((((((((((Bel.refl _).trans b1).alloc _).trans b2).alloc _).trans b3).trans b4).trans b5).trans b6).trans b7).trans b8).trans b9).trans b10).trans b11).trans b12).trans b13).trans b14).trans b15).trans b16).trans b17)) (m := (bx : Int)) (by rw [HB.out])).mono ?_); rintro e w18 ⟨rfl, b18⟩
  go_wp2_with fail
  go_ret
  exact ⟨rfl, (((((((((((((((((((((Bel.refl _).trans b1).alloc _).trans b2).alloc _).trans b3).trans b4).trans b5).trans b6).trans b7).trans b8).trans b9).trans b10).trans b11).trans b12).trans b13).trans b14).trans b15).trans b16).trans b17).trans b18)⟩
set_option maxRecDepth 100000 in
set_option maxHeartbeats 4000000 in
theorem natShift_calls (A0 : Option Addr) (c0 : Nat) (l0 : List Int) (kn : Nat) (hkn : kn ≤ 255) (w : World) (h0 : Rd w A0 l0) (k0 : l0.length ≤ c0) :
    Calls Try.prog 6 #[.slice A0 l0.length c0, .int .u8 (kn : Int)] w (Tells w (.bool true)) := by
  have HG := Ho.mk (great1_of c0 h0)
  cases hg : (([⟨A0, c0, l0⟩] : List L1.Row).any fun r => L1.bad r.l) with
  | true =>
    rw [hg] at HG
    clear hg
    go_enter Try.func6, Try.ntmps6
    go_wp2_with fail
    (with_reducible refine (L3.head_calls _).mono ?_); rintro e w1 ⟨rfl, b1⟩
    go_wp2_with fail
    (with_reducible refine ((HG.out w1 b1).mono tells_quiet).mono ?_); rintro e w2 ⟨rfl, b2⟩
    go_wp2_with fail
    go_ret
    exact ⟨rfl, (b1.alloc _).trans b2⟩
  | false =>
    rw [hg] at HG
    simp only [List.any_cons, List.any_nil, Bool.or_false, Bool.or_eq_false_iff] at hg
    have hb0 := hg
    obtain ⟨x, rfl, s0⟩ := L1.bad_not hb0
    have p0 : Nm w (.slice A0 (digs x).length c0) x 30 := ⟨⟨A0, c0, rfl, k0, h0⟩, s0⟩
    clear h0 k0 s0
    by_cases hx : x = 0
    · exact shiftZ A0 c0 x kn hkn w p0 (by subst hx; rw [digs_zero]; rfl) HG
    · have h1 := R8.blen_len x
      have h2 := p0.len
      exact shiftN A0 c0 x kn hkn w p0 (blen x) ⟨rfl⟩ (by omega) ⟨hx⟩ (beq_eq_false_iff_ne.mpr (fun e => hx (digs_nil.1 (List.length_eq_zero_iff.1 (by omega))))) HG
end Go.Proofs.Ytpgdiebmdcbgfaa.L8
