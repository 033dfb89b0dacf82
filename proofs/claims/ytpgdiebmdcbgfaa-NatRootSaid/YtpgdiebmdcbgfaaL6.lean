/-
  The walk of NatRoot (its steps are printed by gen_law.py).
-/
import Derived.Test.YtpgdiebmdcbgfaaL5
set_option linter.unusedVariables false
set_option linter.unusedSimpArgs false
namespace Go.Proofs.Ytpgdiebmdcbgfaa.L6
open Go.RowKit Go.Proofs.Ytpgdiebmdcbgfaa Go.Proofs.Ytpgdiebmdcbgfaa.Ow Go.Proofs.Ytpgdiebmdcbgfaa.Pl Go.Proofs.Ytpgdiebmdcbgfaa.L2 Go.Proofs.Ytpgdiebmdcbgfaa.L5

theorem great1_of {w : World} {A0 : Option Addr} (c0 : Nat) {l0 : List Int} (h0 : Rd w A0 l0) (W : World) (g : Bel w W) :
    Calls Try.prog 15 #[.slice (some ⟨W.heap.size, 0, none⟩) 1 1] (W.alloc (.cells #[.slice A0 l0.length c0] 22)) fun e w' => e = .returned (.bool (([⟨A0, c0, l0⟩] : List L1.Row).any fun r => L1.bad r.l)) ∧ W.alloc (.cells #[.slice A0 l0.length c0] 22) = w' :=
  L1.great_calls W.heap.size 1 [⟨A0, c0, l0⟩] _ rfl (by decide) (Blk.new W [.slice A0 l0.length c0] 22) (by
    intro r hr
    simp only [List.mem_cons, List.not_mem_nil, or_false] at hr
    subst hr
    · exact (h0.bel g).bel ((Bel.refl _).alloc _)
    )

set_option maxHeartbeats 4000000 in
theorem natRoot_calls (A0 : Option Addr) (c0 : Nat) (l0 : List Int) (w : World) (h0 : Rd w A0 l0) (k0 : l0.length ≤ c0) :
    Calls Try.prog 7 #[.slice A0 l0.length c0] w (Tells w (.bool true)) := by
  have HG := Ho.mk (great1_of c0 h0)
  cases hg : (([⟨A0, c0, l0⟩] : List L1.Row).any fun r => L1.bad r.l) with
  | true =>
    rw [hg] at HG
    clear hg
    go_enter Try.func7, Try.ntmps7
    go_wp2_with fail
    (with_reducible refine (L3.head_calls _).mono ?_); rintro e w1 ⟨rfl, b1⟩
    go_wp2_with fail
    (with_reducible refine ((HG.out w1 b1).mono tells_quiet).mono ?_); rintro e w2 ⟨rfl, b2⟩
    go_wp2_with fail
    go_ret
    exact ⟨rfl, (b1.alloc _).trans b2⟩
  | false =>
    rw [hg] at HG
    simp only [List.any_cons, List.any_nil, Bool.or_false, Bool.or_eq_false_iff] at hg
    have hb0 := hg
    obtain ⟨x, rfl, s0⟩ := L1.bad_not hb0
    have p0 : Nm w (.slice A0 (digs x).length c0) x 30 := ⟨⟨A0, c0, rfl, k0, h0⟩, s0⟩
    clear h0 k0 s0
    go_enter Try.func7, Try.ntmps7
    go_wp2_with fail
    (with_reducible refine (L3.head_calls _).mono ?_); rintro e w1 ⟨rfl, b1⟩
    go_wp2_with fail
    (with_reducible refine ((HG.out w1 b1).mono tells_quiet).mono ?_); rintro e w2 ⟨rfl, b2⟩
    go_wp2_with fail
    (with_reducible refine (nRoot (p0.bel ((((Bel.refl _).trans b1).alloc _).trans b2)) (by omega)).mono ?_); rintro e w3 ⟨v3, rfl, n3, b3⟩
    go_wp2_with fail
    (with_reducible refine (rRight n3 (by omega)).mono ?_); rintro e w4 ⟨rfl, b4⟩
    go_wp2_with fail
    (with_reducible refine (nAdd (n3.bel (((Bel.refl _).trans b4).alloc _)) (L2.Nm.lit1 1 (i := 1) rfl (by decide) (by decide)) (by omega) (by omega)).mono ?_); rintro e w5 ⟨v5, rfl, n5, b5⟩
    go_wp2_with fail
    (with_reducible refine (nMul (n3.bel ((((Bel.refl _).trans b4).alloc _).trans b5)) (n3.bel ((((Bel.refl _).trans b4).alloc _).trans b5)) (by omega) (by omega)).mono ?_); rintro e w6 ⟨v6, rfl, n6, b6⟩
    go_wp2_with fail
    (with_reducible refine (nCmpLe n6 (p0.bel (((((((((Bel.refl _).trans b1).alloc _).trans b2).trans b3).trans b4).alloc _).trans b5).trans b6)) (rootN_le _)).mono ?_); rintro e w7 ⟨c7, ⟨hca7, hcb7⟩, rfl, b7⟩
    go_wp2_with fail
    (with_reducible refine (nMul (n5.bel (((Bel.refl _).trans b6).trans b7)) (n5.bel (((Bel.refl _).trans b6).trans b7)) (by omega) (by omega)).mono ?_); rintro e w8 ⟨v8, rfl, n8, b8⟩
    go_wp2_with fail
    (with_reducible refine (nCmpGt n8 (p0.bel (((((((((((Bel.refl _).trans b1).alloc _).trans b2).trans b3).trans b4).alloc _).trans b5).trans b6).trans b7).trans b8)) (rootN_lt _)).mono ?_); rintro e w9 ⟨rfl, b9⟩
    go_wp2_with fail
    (with_reducible refine (nMul (p0.bel ((((((((((((Bel.refl _).trans b1).alloc _).trans b2).trans b3).trans b4).alloc _).trans b5).trans b6).trans b7).trans b8).trans b9)) (p0.bel ((((((((((((Bel.refl _).trans b1).alloc _).trans b2).trans b3).trans b4).alloc _).trans b5).trans b6).trans b7).trans b8).trans b9)) (by omega) (by omega)).mono ?_); rintro e w10 ⟨v10, rfl, n10, b10⟩
    go_wp2_with fail
    (with_reducible refine (nRoot n10 (by omega)).mono ?_); rintro e w11 ⟨v11, rfl, n11, b11⟩
    go_wp2_with fail
    (with_reducible refine (same n11 (p0.bel ((((((((((((((Bel.refl _).trans b1).alloc _).trans b2).trans b3).trans b4).alloc _).trans b5).trans b6).trans b7).trans b8).trans b9).trans b10).trans b11)) (rootN_eq (Nat.le_refl _) (Nat.mul_lt_mul_of_lt_of_le (Nat.lt_succ_self _) (Nat.le_succ _) (Nat.succ_pos _)))).mono ?_); rintro e w12 ⟨rfl, b12⟩
    go_wp2_with fail
    go_ret
    exact ⟨rfl, (((((((((((((((Bel.refl _).trans b1).alloc _).trans b2).trans b3).trans b4).alloc _).trans b5).trans b6).trans b7).trans b8).trans b9).trans b10).trans b11).trans b12)⟩
end Go.Proofs.Ytpgdiebmdcbgfaa.L6
