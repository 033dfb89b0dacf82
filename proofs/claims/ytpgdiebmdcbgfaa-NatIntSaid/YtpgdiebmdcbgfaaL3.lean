/-
  The walk of head (its steps are printed by gen_law.py).
-/
import Derived.Test.YtpgdiebmdcbgfaaL2
set_option linter.unusedVariables false
namespace Go.Proofs.Ytpgdiebmdcbgfaa.L3
open Go.RowKit Go.Proofs.Ytpgdiebmdcbgfaa Go.Proofs.Ytpgdiebmdcbgfaa.Ow Go.Proofs.Ytpgdiebmdcbgfaa.Pl Go.Proofs.Ytpgdiebmdcbgfaa.L2

set_option maxHeartbeats 2000000 in
theorem head_calls (w : World) : Calls Try.prog 9 #[] w (Tells w (.bool true)) := by
  go_enter Try.func9, Try.ntmps9
  go_wp2_with fail
  (with_reducible refine (L2.nOf (N := 16777216) (n := 16777216) (a := 2) rfl (by decide) (digs_len_le.2 (by decide))).mono ?_); rintro e w1 ⟨v1, rfl, n1, b1⟩
  go_wp2_with fail
  (with_reducible refine (L2.nOf (N := 1) (n := 1) (a := 2) rfl (by decide) (digs_len_le.2 (by decide))).mono ?_); rintro e w2 ⟨v2, rfl, n2, b2⟩
  go_wp2_with fail
  (with_reducible refine (L2.nSub (n1.bel ((Bel.refl _).trans b2)) n2 (by omega) (by decide)).mono ?_); rintro e w3 ⟨v3, rfl, n3, b3⟩
  go_wp2_with fail
  (with_reducible refine (L2.nOf (N := 1) (n := 1) (a := 2) rfl (by decide) (digs_len_le.2 (by decide))).mono ?_); rintro e w4 ⟨v4, rfl, n4, b4⟩
  go_wp2_with fail
  (with_reducible refine (L2.nSubNo n4 (n1.bel ((((Bel.refl _).trans b2).trans b3).trans b4)) (by decide)).mono ?_); rintro e w5 ⟨rfl, b5⟩
  go_wp2_with fail
  (with_reducible refine (L2.nOf (N := 3) (n := 3) (a := 2) rfl (by decide) (digs_len_le.2 (by decide))).mono ?_); rintro e w6 ⟨v6, rfl, n6, b6⟩
  go_wp2_with fail
  (with_reducible refine (L2.nMul (n1.bel ((((((Bel.refl _).trans b2).trans b3).trans b4).trans b5).trans b6)) n6 (by omega) (by omega)).mono ?_); rintro e w7 ⟨v7, rfl, n7, b7⟩
  go_wp2_with fail
  (with_reducible refine (L2.nInt n7 (blen_le.2 (by decide))).mono ?_); rintro e w8 ⟨rfl, b8⟩
  go_wp2_with fail
  (with_reducible refine (L2.nOf (N := 1) (n := 1) (a := 2) rfl (by decide) (digs_len_le.2 (by decide))).mono ?_); rintro e w9 ⟨v9, rfl, n9, b9⟩
  go_wp2_with fail
  (with_reducible refine (L2.nShl n9 (by omega) (kn := 62) rfl (by decide)).mono ?_); rintro e w10 ⟨v10, rfl, n10, b10⟩
  go_wp2_with fail
  (with_reducible refine (L2.nIntNo n10 (Nat.lt_of_not_le (fun h => absurd (blen_le.1 h) (by decide)))).mono ?_); rintro e w11 ⟨rfl, b11⟩
  go_wp2_with fail
  (with_reducible refine (L2.same (n1.bel ((((((((((((Bel.refl _).trans b2).trans b3).trans b4).trans b5).trans b6).trans b7).trans b8).trans b9).trans b10).trans b11).alloc _)) (L2.Nm.lit2 0 1 (i := 0) (j := 1) rfl rfl (by decide) (by decide) (by decide)) (by decide)).mono ?_); rintro e w12 ⟨rfl, b12⟩
  go_wp2_with fail
  (with_reducible refine (L2.same (n3.bel ((((((((((((Bel.refl _).trans b4).trans b5).trans b6).trans b7).trans b8).trans b9).trans b10).trans b11).alloc _).trans b12).alloc _)) (L2.Nm.lit1 16777215 (i := 16777215) rfl (by decide) (by decide)) (by decide)).mono ?_); rintro e w13 ⟨rfl, b13⟩
  go_wp2_with fail
  (with_reducible refine (L2.nOf (N := 0) (n := 0) (a := 2) rfl (by decide) (digs_len_le.2 (by decide))).mono ?_); rintro e w14 ⟨v14, rfl, n14, b14⟩
  obtain ⟨A14, c14, rfl⟩ := n14.zero
  go_wp2_with fail
  (with_reducible refine (L2.nRight (n1.bel ((((((((((((((((Bel.refl _).trans b2).trans b3).trans b4).trans b5).trans b6).trans b7).trans b8).trans b9).trans b10).trans b11).alloc _).trans b12).alloc _).trans b13).trans b14)) (by omega)).mono ?_); rintro e w15 ⟨rfl, b15⟩
  go_wp2_with fail
  (with_reducible refine (L2.nRightLit (i := 0) (by decide)).mono ?_); rintro e w16 ⟨rfl, b16⟩
  go_wp2_with fail
  (with_reducible refine (L2.nRightLit (i := -1) (by decide)).mono ?_); rintro e w17 ⟨rfl, b17⟩
  go_wp2_with fail
  (with_reducible refine (L2.nCmpGt (n1.bel (((((((((((((((((((((Bel.refl _).trans b2).trans b3).trans b4).trans b5).trans b6).trans b7).trans b8).trans b9).trans b10).trans b11).alloc _).trans b12).alloc _).trans b13).trans b14).trans b15).alloc _).trans b16).alloc _).trans b17)) (n3.bel (((((((((((((((((((Bel.refl _).trans b4).trans b5).trans b6).trans b7).trans b8).trans b9).trans b10).trans b11).alloc _).trans b12).alloc _).trans b13).trans b14).trans b15).alloc _).trans b16).alloc _).trans b17)) (by decide)).mono ?_); rintro e w18 ⟨rfl, b18⟩
  go_wp2_with fail
  (with_reducible refine (L2.nLen (n1.bel ((((((((((((((((((((((Bel.refl _).trans b2).trans b3).trans b4).trans b5).trans b6).trans b7).trans b8).trans b9).trans b10).trans b11).alloc _).trans b12).alloc _).trans b13).trans b14).trans b15).alloc _).trans b16).alloc _).trans b17).trans b18)) (m := 25) (blen_eq (by decide) (by decide))).mono ?_); rintro e w19 ⟨rfl, b19⟩
  go_wp2_with fail
  (with_reducible refine (L2.nAdd (n1.bel (((((((((((((((((((((((Bel.refl _).trans b2).trans b3).trans b4).trans b5).trans b6).trans b7).trans b8).trans b9).trans b10).trans b11).alloc _).trans b12).alloc _).trans b13).trans b14).trans b15).alloc _).trans b16).alloc _).trans b17).trans b18).trans b19)) (n3.bel (((((((((((((((((((((Bel.refl _).trans b4).trans b5).trans b6).trans b7).trans b8).trans b9).trans b10).trans b11).alloc _).trans b12).alloc _).trans b13).trans b14).trans b15).alloc _).trans b16).alloc _).trans b17).trans b18).trans b19)) (by omega) (by omega)).mono ?_); rintro e w20 ⟨v20, rfl, n20, b20⟩
  go_wp2_with fail
  (with_reducible refine (L2.same (n20.bel ((Bel.refl _).alloc _)) (L2.Nm.lit2 16777215 1 (i := 16777215) (j := 1) rfl rfl (by decide) (by decide) (by decide)) (by decide)).mono ?_); rintro e w21 ⟨rfl, b21⟩
  go_wp2_with fail
  (with_reducible refine (L2.nShr (n1.bel ((((((((((((((((((((((((((Bel.refl _).trans b2).trans b3).trans b4).trans b5).trans b6).trans b7).trans b8).trans b9).trans b10).trans b11).alloc _).trans b12).alloc _).trans b13).trans b14).trans b15).alloc _).trans b16).alloc _).trans b17).trans b18).trans b19).trans b20).alloc _).trans b21)) (by omega) (kn := 23) rfl (by decide)).mono ?_); rintro e w22 ⟨v22, rfl, n22, b22⟩
  go_wp2_with fail
  (with_reducible refine (L2.same (n22.bel ((Bel.refl _).alloc _)) (L2.Nm.lit1 2 (i := 2) rfl (by decide) (by decide)) (by decide)).mono ?_); rintro e w23 ⟨rfl, b23⟩
  go_wp2_with fail
  (with_reducible refine (L2.nOf (N := 99) (n := 99) (a := 2) rfl (by decide) (digs_len_le.2 (by decide))).mono ?_); rintro e w24 ⟨v24, rfl, n24, b24⟩
  go_wp2_with fail
  (with_reducible refine (L2.nRoot n24 (by omega)).mono ?_); rintro e w25 ⟨v25, rfl, n25, b25⟩
  go_wp2_with fail
  (with_reducible refine (L2.same (n25.bel ((Bel.refl _).alloc _)) (L2.Nm.lit1 9 (i := 9) rfl (by decide) (by decide)) (rootN_eq (by decide) (by decide))).mono ?_); rintro e w26 ⟨rfl, b26⟩
  go_wp2_with fail
  go_ret
  exact ⟨rfl, ((((((((((((((((((((((((((((((((((Bel.refl _).trans b1).trans b2).trans b3).trans b4).trans b5).trans b6).trans b7).trans b8).trans b9).trans b10).trans b11).alloc _).trans b12).alloc _).trans b13).trans b14).trans b15).alloc _).trans b16).alloc _).trans b17).trans b18).trans b19).trans b20).alloc _).trans b21).trans b22).alloc _).trans b23).trans b24).trans b25).alloc _).trans b26)⟩
end Go.Proofs.Ytpgdiebmdcbgfaa.L3
