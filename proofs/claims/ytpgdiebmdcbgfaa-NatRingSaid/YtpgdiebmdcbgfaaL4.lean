/-
  The walk of NatRing (its steps are printed by gen_law.py).
-/
import Derived.Test.YtpgdiebmdcbgfaaL3
set_option linter.unusedVariables false
namespace Go.Proofs.Ytpgdiebmdcbgfaa.L4
open Go.RowKit Go.Proofs.Ytpgdiebmdcbgfaa Go.Proofs.Ytpgdiebmdcbgfaa.Ow Go.Proofs.Ytpgdiebmdcbgfaa.Pl Go.Proofs.Ytpgdiebmdcbgfaa.L2

theorem great3_of {w : World} {A0 : Option Addr} {A1 : Option Addr} {A2 : Option Addr} (c0 : Nat) (c1 : Nat) (c2 : Nat) {l0 : List Int} {l1 : List Int} {l2 : List Int} (h0 : Rd w A0 l0) (h1 : Rd w A1 l1) (h2 : Rd w A2 l2) (W : World) (g : Bel w W) :
    Calls Try.prog 15 #[.slice (some ⟨W.heap.size, 0, none⟩) 3 3] (W.alloc (.cells #[.slice A0 l0.length c0, .slice A1 l1.length c1, .slice A2 l2.length c2] 22)) fun e w' => e = .returned (.bool (([⟨A0, c0, l0⟩, ⟨A1, c1, l1⟩, ⟨A2, c2, l2⟩] : List L1.Row).any fun r => L1.bad r.l)) ∧ W.alloc (.cells #[.slice A0 l0.length c0, .slice A1 l1.length c1, .slice A2 l2.length c2] 22) = w' :=
  L1.great_calls W.heap.size 3 [⟨A0, c0, l0⟩, ⟨A1, c1, l1⟩, ⟨A2, c2, l2⟩] _ rfl (by decide) (Blk.new W [.slice A0 l0.length c0, .slice A1 l1.length c1, .slice A2 l2.length c2] 22) (by
    intro r hr
    simp only [List.mem_cons, List.not_mem_nil, or_false] at hr
    rcases hr with rfl | rfl | rfl
    · exact (h0.bel g).bel ((Bel.refl _).alloc _)
    · exact (h1.bel g).bel ((Bel.refl _).alloc _)
    · exact (h2.bel g).bel ((Bel.refl _).alloc _)
    )

set_option maxHeartbeats 4000000 in
theorem ring_calls (A0 : Option Addr) (c0 : Nat) (l0 : List Int) (A1 : Option Addr) (c1 : Nat) (l1 : List Int) (A2 : Option Addr) (c2 : Nat) (l2 : List Int) (w : World) (h0 : Rd w A0 l0) (k0 : l0.length ≤ c0) (h1 : Rd w A1 l1) (k1 : l1.length ≤ c1) (h2 : Rd w A2 l2) (k2 : l2.length ≤ c2) :
    Calls Try.prog 4 #[.slice A0 l0.length c0, .slice A1 l1.length c1, .slice A2 l2.length c2] w (Tells w (.bool true)) := by
  have HG := Ho.mk (great3_of c0 c1 c2 h0 h1 h2)
  cases hg : (([⟨A0, c0, l0⟩, ⟨A1, c1, l1⟩, ⟨A2, c2, l2⟩] : List L1.Row).any fun r => L1.bad r.l) with
  | true =>
    rw [hg] at HG
    clear hg
    go_enter Try.func4, Try.ntmps4
    go_wp2_with fail
    (with_reducible refine (L3.head_calls _).mono ?_); rintro e w1 ⟨rfl, b1⟩
    go_wp2_with fail
    (with_reducible refine ((HG.out w1 b1).mono tells_quiet).mono ?_); rintro e w2 ⟨rfl, b2⟩
    go_wp2_with fail
    go_ret
    exact ⟨rfl, (b1.alloc _).trans b2⟩
  | false =>
    rw [hg] at HG
    simp only [List.any_cons, List.any_nil, Bool.or_false, Bool.or_eq_false_iff] at hg
    obtain ⟨hb0, hb1, hb2⟩ := hg
    obtain ⟨x, rfl, s0⟩ := L1.bad_not hb0
    obtain ⟨y, rfl, s1⟩ := L1.bad_not hb1
    obtain ⟨z, rfl, s2⟩ := L1.bad_not hb2
    have p0 : Nm w (.slice A0 (digs x).length c0) x 30 := ⟨⟨A0, c0, rfl, k0, h0⟩, s0⟩
    have p1 : Nm w (.slice A1 (digs y).length c1) y 30 := ⟨⟨A1, c1, rfl, k1, h1⟩, s1⟩
    have p2 : Nm w (.slice A2 (digs z).length c2) z 30 := ⟨⟨A2, c2, rfl, k2, h2⟩, s2⟩
    clear h0 k0 s0 h1 k1 s1 h2 k2 s2
    go_enter Try.func4, Try.ntmps4
    go_wp2_with fail
    (with_reducible refine (L3.head_calls _).mono ?_); rintro e w1 ⟨rfl, b1⟩
    go_wp2_with fail
    (with_reducible refine ((HG.out w1 b1).mono tells_quiet).mono ?_); rintro e w2 ⟨rfl, b2⟩
    go_wp2_with fail
    (with_reducible refine (L2.nAdd (p0.bel ((((Bel.refl _).trans b1).alloc _).trans b2)) (p1.bel ((((Bel.refl _).trans b1).alloc _).trans b2)) (by omega) (by omega)).mono ?_); rintro e w3 ⟨v3, rfl, n3, b3⟩
    go_wp2_with fail
    (with_reducible refine (L2.nMul (p0.bel (((((Bel.refl _).trans b1).alloc _).trans b2).trans b3)) (p1.bel (((((Bel.refl _).trans b1).alloc _).trans b2).trans b3)) (by omega) (by omega)).mono ?_); rintro e w4 ⟨v4, rfl, n4, b4⟩
    go_wp2_with fail
    (with_reducible refine (L2.rRight (n3.bel ((Bel.refl _).trans b4)) (by omega)).mono ?_); rintro e w5 ⟨rfl, b5⟩
    go_wp2_with fail
    (with_reducible refine (L2.rRight (n4.bel ((Bel.refl _).trans b5)) (by omega)).mono ?_); rintro e w6 ⟨rfl, b6⟩
    go_wp2_with fail
    (with_reducible refine (L2.nAdd (p1.bel ((((((((Bel.refl _).trans b1).alloc _).trans b2).trans b3).trans b4).trans b5).trans b6)) (p0.bel ((((((((Bel.refl _).trans b1).alloc _).trans b2).trans b3).trans b4).trans b5).trans b6)) (by omega) (by omega)).mono ?_); rintro e w7 ⟨v7, rfl, n7, b7⟩
    go_wp2_with fail
    (with_reducible refine (L2.same (n3.bel (((((Bel.refl _).trans b4).trans b5).trans b6).trans b7)) n7 (Nat.add_comm _ _)).mono ?_); rintro e w8 ⟨rfl, b8⟩
    go_wp2_with fail
    (with_reducible refine (L2.nMul (p1.bel ((((((((((Bel.refl _).trans b1).alloc _).trans b2).trans b3).trans b4).trans b5).trans b6).trans b7).trans b8)) (p0.bel ((((((((((Bel.refl _).trans b1).alloc _).trans b2).trans b3).trans b4).trans b5).trans b6).trans b7).trans b8)) (by omega) (by omega)).mono ?_); rintro e w9 ⟨v9, rfl, n9, b9⟩
    go_wp2_with fail
    (with_reducible refine (L2.same (n4.bel ((((((Bel.refl _).trans b5).trans b6).trans b7).trans b8).trans b9)) n9 (Nat.mul_comm _ _)).mono ?_); rintro e w10 ⟨rfl, b10⟩
    go_wp2_with fail
    (with_reducible refine (L2.nAdd (n3.bel ((((((((Bel.refl _).trans b4).trans b5).trans b6).trans b7).trans b8).trans b9).trans b10)) (p2.bel ((((((((((((Bel.refl _).trans b1).alloc _).trans b2).trans b3).trans b4).trans b5).trans b6).trans b7).trans b8).trans b9).trans b10)) (by omega) (by omega)).mono ?_); rintro e w11 ⟨v11, rfl, n11, b11⟩
    go_wp2_with fail
    (with_reducible refine (L2.nAdd (p1.bel (((((((((((((Bel.refl _).trans b1).alloc _).trans b2).trans b3).trans b4).trans b5).trans b6).trans b7).trans b8).trans b9).trans b10).trans b11)) (p2.bel (((((((((((((Bel.refl _).trans b1).alloc _).trans b2).trans b3).trans b4).trans b5).trans b6).trans b7).trans b8).trans b9).trans b10).trans b11)) (by omega) (by omega)).mono ?_); rintro e w12 ⟨v12, rfl, n12, b12⟩
    go_wp2_with fail
    (with_reducible refine (L2.nAdd (p0.bel ((((((((((((((Bel.refl _).trans b1).alloc _).trans b2).trans b3).trans b4).trans b5).trans b6).trans b7).trans b8).trans b9).trans b10).trans b11).trans b12)) n12 (by omega) (by omega)).mono ?_); rintro e w13 ⟨v13, rfl, n13, b13⟩
    go_wp2_with fail
    (with_reducible refine (L2.same (n11.bel (((Bel.refl _).trans b12).trans b13)) n13 (Nat.add_assoc _ _ _)).mono ?_); rintro e w14 ⟨rfl, b14⟩
    go_wp2_with fail
    (with_reducible refine (L2.nMul (n4.bel (((((((((((Bel.refl _).trans b5).trans b6).trans b7).trans b8).trans b9).trans b10).trans b11).trans b12).trans b13).trans b14)) (p2.bel ((((((((((((((((Bel.refl _).trans b1).alloc _).trans b2).trans b3).trans b4).trans b5).trans b6).trans b7).trans b8).trans b9).trans b10).trans b11).trans b12).trans b13).trans b14)) (by omega) (by omega)).mono ?_); rintro e w15 ⟨v15, rfl, n15, b15⟩
    go_wp2_with fail
    (with_reducible refine (L2.nMul (p1.bel (((((((((((((((((Bel.refl _).trans b1).alloc _).trans b2).trans b3).trans b4).trans b5).trans b6).trans b7).trans b8).trans b9).trans b10).trans b11).trans b12).trans b13).trans b14).trans b15)) (p2.bel (((((((((((((((((Bel.refl _).trans b1).alloc _).trans b2).trans b3).trans b4).trans b5).trans b6).trans b7).trans b8).trans b9).trans b10).trans b11).trans b12).trans b13).trans b14).trans b15)) (by omega) (by omega)).mono ?_); rintro e w16 ⟨v16, rfl, n16, b16⟩
    go_wp2_with fail
    (with_reducible refine (L2.nMul (p0.bel ((((((((((((((((((Bel.refl _).trans b1).alloc _).trans b2).trans b3).trans b4).trans b5).trans b6).trans b7).trans b8).trans b9).trans b10).trans b11).trans b12).trans b13).trans b14).trans b15).trans b16)) n16 (by omega) (by omega)).mono ?_); rintro e w17 ⟨v17, rfl, n17, b17⟩
    go_wp2_with fail
    (with_reducible refine (L2.same (n15.bel (((Bel.refl _).trans b16).trans b17)) n17 (Nat.mul_assoc _ _ _)).mono ?_); rintro e w18 ⟨rfl, b18⟩
    go_wp2_with fail
    (with_reducible refine (L2.nMul (n3.bel ((((((((((((((((Bel.refl _).trans b4).trans b5).trans b6).trans b7).trans b8).trans b9).trans b10).trans b11).trans b12).trans b13).trans b14).trans b15).trans b16).trans b17).trans b18)) (p2.bel ((((((((((((((((((((Bel.refl _).trans b1).alloc _).trans b2).trans b3).trans b4).trans b5).trans b6).trans b7).trans b8).trans b9).trans b10).trans b11).trans b12).trans b13).trans b14).trans b15).trans b16).trans b17).trans b18)) (by omega) (by omega)).mono ?_); rintro e w19 ⟨v19, rfl, n19, b19⟩
    go_wp2_with fail
    (with_reducible refine (L2.nMul (p0.bel (((((((((((((((((((((Bel.refl _).trans b1).alloc _).trans b2).trans b3).trans b4).trans b5).trans b6).trans b7).trans b8).trans b9).trans b10).trans b11).trans b12).trans b13).trans b14).trans b15).trans b16).trans b17).trans b18).trans b19)) (p2.bel (((((((((((((((((((((Bel.refl _).trans b1).alloc _).trans b2).trans b3).trans b4).trans b5).trans b6).trans b7).trans b8).trans b9).trans b10).trans b11).trans b12).trans b13).trans b14).trans b15).trans b16).trans b17).trans b18).trans b19)) (by omega) (by omega)).mono ?_); rintro e w20 ⟨v20, rfl, n20, b20⟩
    go_wp2_with fail
    (with_reducible refine (L2.nMul (p1.bel ((((((((((((((((((((((Bel.refl _).trans b1).alloc _).trans b2).trans b3).trans b4).trans b5).trans b6).trans b7).trans b8).trans b9).trans b10).trans b11).trans b12).trans b13).trans b14).trans b15).trans b16).trans b17).trans b18).trans b19).trans b20)) (p2.bel ((((((((((((((((((((((Bel.refl _).trans b1).alloc _).trans b2).trans b3).trans b4).trans b5).trans b6).trans b7).trans b8).trans b9).trans b10).trans b11).trans b12).trans b13).trans b14).trans b15).trans b16).trans b17).trans b18).trans b19).trans b20)) (by omega) (by omega)).mono ?_); rintro e w21 ⟨v21, rfl, n21, b21⟩
    go_wp2_with fail
    (with_reducible refine (L2.nAdd (n20.bel ((Bel.refl _).trans b21)) n21 (by omega) (by omega)).mono ?_); rintro e w22 ⟨v22, rfl, n22, b22⟩
    go_wp2_with fail
    (with_reducible refine (L2.same (n19.bel ((((Bel.refl _).trans b20).trans b21).trans b22)) n22 (Nat.add_mul _ _ _)).mono ?_); rintro e w23 ⟨rfl, b23⟩
    go_wp2_with fail
    (with_reducible refine (L2.nAdd (p0.bel (((((((((((((((((((((((((Bel.refl _).trans b1).alloc _).trans b2).trans b3).trans b4).trans b5).trans b6).trans b7).trans b8).trans b9).trans b10).trans b11).trans b12).trans b13).trans b14).trans b15).trans b16).trans b17).trans b18).trans b19).trans b20).trans b21).trans b22).trans b23)) (L2.Nm.nil _ 0) (by omega) (by omega)).mono ?_); rintro e w24 ⟨v24, rfl, n24, b24⟩
    go_wp2_with fail
    (with_reducible refine (L2.same n24 (p0.bel ((((((((((((((((((((((((((Bel.refl _).trans b1).alloc _).trans b2).trans b3).trans b4).trans b5).trans b6).trans b7).trans b8).trans b9).trans b10).trans b11).trans b12).trans b13).trans b14).trans b15).trans b16).trans b17).trans b18).trans b19).trans b20).trans b21).trans b22).trans b23).trans b24)) (Nat.add_zero _)).mono ?_); rintro e w25 ⟨rfl, b25⟩
    go_wp2_with fail
    (with_reducible refine (L2.nMul (p0.bel ((((((((((((((((((((((((((((Bel.refl _).trans b1).alloc _).trans b2).trans b3).trans b4).trans b5).trans b6).trans b7).trans b8).trans b9).trans b10).trans b11).trans b12).trans b13).trans b14).trans b15).trans b16).trans b17).trans b18).trans b19).trans b20).trans b21).trans b22).trans b23).trans b24).trans b25).alloc _)) (L2.Nm.lit1 1 (i := 1) rfl (by decide) (by decide)) (by omega) (by omega)).mono ?_); rintro e w26 ⟨v26, rfl, n26, b26⟩
    go_wp2_with fail
    (with_reducible refine (L2.same n26 (p0.bel (((((((((((((((((((((((((((((Bel.refl _).trans b1).alloc _).trans b2).trans b3).trans b4).trans b5).trans b6).trans b7).trans b8).trans b9).trans b10).trans b11).trans b12).trans b13).trans b14).trans b15).trans b16).trans b17).trans b18).trans b19).trans b20).trans b21).trans b22).trans b23).trans b24).trans b25).alloc _).trans b26)) (Nat.mul_one _)).mono ?_); rintro e w27 ⟨rfl, b27⟩
    go_wp2_with fail
    (with_reducible refine (L2.nMul (p0.bel ((((((((((((((((((((((((((((((Bel.refl _).trans b1).alloc _).trans b2).trans b3).trans b4).trans b5).trans b6).trans b7).trans b8).trans b9).trans b10).trans b11).trans b12).trans b13).trans b14).trans b15).trans b16).trans b17).trans b18).trans b19).trans b20).trans b21).trans b22).trans b23).trans b24).trans b25).alloc _).trans b26).trans b27)) (L2.Nm.nil _ 0) (by omega) (by omega)).mono ?_); rintro e w28 ⟨v28, rfl, n28, b28⟩
    obtain ⟨A28, c28, rfl⟩ := n28.zero
    go_wp2_with fail
    go_ret
    exact ⟨rfl, (((((((((((((((((((((((((((((((Bel.refl _).trans b1).alloc _).trans b2).trans b3).trans b4).trans b5).trans b6).trans b7).trans b8).trans b9).trans b10).trans b11).trans b12).trans b13).trans b14).trans b15).trans b16).trans b17).trans b18).trans b19).trans b20).trans b21).trans b22).trans b23).trans b24).trans b25).alloc _).trans b26).trans b27).trans b28)⟩
end Go.Proofs.Ytpgdiebmdcbgfaa.L4
