/-
  The walk of NatSub (its steps are printed by gen_law.py).
-/
import Derived.Test.YtpgdiebmdcbgfaaL5
set_option linter.unusedVariables false
set_option linter.unusedSimpArgs false
namespace Go.Proofs.Ytpgdiebmdcbgfaa.L7
open Go.RowKit Go.Proofs.Ytpgdiebmdcbgfaa Go.Proofs.Ytpgdiebmdcbgfaa.Ow Go.Proofs.Ytpgdiebmdcbgfaa.Pl Go.Proofs.Ytpgdiebmdcbgfaa.L2 Go.Proofs.Ytpgdiebmdcbgfaa.L5

theorem great2_of {w : World} {A0 : Option Addr} {A1 : Option Addr} (c0 : Nat) (c1 : Nat) {l0 : List Int} {l1 : List Int} (h0 : Rd w A0 l0) (h1 : Rd w A1 l1) (W : World) (g : Bel w W) :
    Calls Try.prog 15 #[.slice (some ⟨W.heap.size, 0, none⟩) 2 2] (W.alloc (.cells #[.slice A0 l0.length c0, .slice A1 l1.length c1] 22)) fun e w' => e = .returned (.bool (([⟨A0, c0, l0⟩, ⟨A1, c1, l1⟩] : List L1.Row).any fun r => L1.bad r.l)) ∧ W.alloc (.cells #[.slice A0 l0.length c0, .slice A1 l1.length c1] 22) = w' :=
  L1.great_calls W.heap.size 2 [⟨A0, c0, l0⟩, ⟨A1, c1, l1⟩] _ rfl (by decide) (Blk.new W [.slice A0 l0.length c0, .slice A1 l1.length c1] 22) (by
    intro r hr
    simp only [List.mem_cons, List.not_mem_nil, or_false] at hr
    rcases hr with rfl | rfl
    · exact (h0.bel g).bel ((Bel.refl _).alloc _)
    · exact (h1.bel g).bel ((Bel.refl _).alloc _)
    )

set_option maxHeartbeats 4000000 in
theorem subLt (A0 : Option Addr) (c0 x : Nat) (A1 : Option Addr) (c1 y : Nat) (w : World) (p0 : Nm w (.slice A0 (digs x).length c0) x 30) (p1 : Nm w (.slice A1 (digs y).length c1) y 30) (HXY : Ho (x < y))
    (HG : Ho (∀ W, Bel w W → Calls Try.prog 15 #[.slice (some ⟨W.heap.size, 0, none⟩) 2 2] (W.alloc (.cells #[.slice A0 (digs x).length c0, .slice A1 (digs y).length c1] 22)) fun e w' => e = .returned (.bool false) ∧ W.alloc (.cells #[.slice A0 (digs x).length c0, .slice A1 (digs y).length c1] 22) = w')) :
    Calls Try.prog 5 #[.slice A0 (digs x).length c0, .slice A1 (digs y).length c1] w (Tells w (.bool true)) := by
  go_enter Try.func5, Try.ntmps5
  go_wp2_with fail
  (with_reducible refine (L3.head_calls _).mono ?_); rintro e w1 ⟨rfl, b1⟩
  go_wp2_with fail
  (with_reducible refine ((HG.out w1 b1).mono tells_quiet).mono ?_); rintro e w2 ⟨rfl, b2⟩
  go_wp2_with fail
  (with_reducible refine (nAdd (p0.bel ((((Bel.refl _).trans b1).alloc _).trans b2)) (p1.bel ((((Bel.refl _).trans b1).alloc _).trans b2)) (by omega) (by omega)).mono ?_); rintro e w3 ⟨v3, rfl, n3, b3⟩
  go_wp2_with fail
  (with_reducible refine (nSub n3 (p1.bel (((((Bel.refl _).trans b1).alloc _).trans b2).trans b3)) (by omega) (Nat.le_add_left _ _)).mono ?_); rintro e w4 ⟨v4, rfl, n4, b4⟩
  go_wp2_with fail
  (with_reducible refine (nSubNo (p0.bel ((((((Bel.refl _).trans b1).alloc _).trans b2).trans b3).trans b4)) (p1.bel ((((((Bel.refl _).trans b1).alloc _).trans b2).trans b3).trans b4)) HXY.out).mono ?_); rintro e w5 ⟨rfl, b5⟩
  go_wp2_with fail
  (with_reducible refine (nCmpLt (p0.bel (((((((Bel.refl _).trans b1).alloc _).trans b2).trans b3).trans b4).trans b5)) (p1.bel (((((((Bel.refl _).trans b1).alloc _).trans b2).trans b3).trans b4).trans b5)) HXY.out).mono ?_); rintro e w6 ⟨rfl, b6⟩
  go_wp2_with fail
  (with_reducible refine (same (n4.bel (((Bel.refl _).trans b5).trans b6)) (p0.bel ((((((((Bel.refl _).trans b1).alloc _).trans b2).trans b3).trans b4).trans b5).trans b6)) (Nat.add_sub_cancel _ _)).mono ?_); rintro e w7 ⟨rfl, b7⟩
  go_wp2_with fail
  (with_reducible refine (sameNo (p0.bel (((((((((Bel.refl _).trans b1).alloc _).trans b2).trans b3).trans b4).trans b5).trans b6).trans b7)) (p1.bel (((((((((Bel.refl _).trans b1).alloc _).trans b2).trans b3).trans b4).trans b5).trans b6).trans b7)) (Nat.ne_of_lt HXY.out)).mono ?_); rintro e w8 ⟨rfl, b8⟩
  go_wp2_with fail
  (with_reducible refine (nCmpGt (p1.bel ((((((((((Bel.refl _).trans b1).alloc _).trans b2).trans b3).trans b4).trans b5).trans b6).trans b7).trans b8)) (p0.bel ((((((((((Bel.refl _).trans b1).alloc _).trans b2).trans b3).trans b4).trans b5).trans b6).trans b7).trans b8)) HXY.out).mono ?_); rintro e w9 ⟨rfl, b9⟩
  go_wp2_with fail
  go_ret
  exact ⟨rfl, (((((((((((Bel.refl _).trans b1).alloc _).trans b2).trans b3).trans b4).trans b5).trans b6).trans b7).trans b8).trans b9)⟩
set_option maxHeartbeats 4000000 in
theorem subEq (A0 : Option Addr) (c0 x : Nat) (A1 : Option Addr) (c1 y : Nat) (w : World) (p0 : Nm w (.slice A0 (digs x).length c0) x 30) (p1 : Nm w (.slice A1 (digs y).length c1) y 30) (HXY : Ho (x = y))
    (HG : Ho (∀ W, Bel w W → Calls Try.prog 15 #[.slice (some ⟨W.heap.size, 0, none⟩) 2 2] (W.alloc (.cells #[.slice A0 (digs x).length c0, .slice A1 (digs y).length c1] 22)) fun e w' => e = .returned (.bool false) ∧ W.alloc (.cells #[.slice A0 (digs x).length c0, .slice A1 (digs y).length c1] 22) = w')) :
    Calls Try.prog 5 #[.slice A0 (digs x).length c0, .slice A1 (digs y).length c1] w (Tells w (.bool true)) := by
  go_enter Try.func5, Try.ntmps5
  go_wp2_with fail
  (with_reducible refine (L3.head_calls _).mono ?_); rintro e w1 ⟨rfl, b1⟩
  go_wp2_with fail
  (with_reducible refine ((HG.out w1 b1).mono tells_quiet).mono ?_); rintro e w2 ⟨rfl, b2⟩
  go_wp2_with fail
  (with_reducible refine (nAdd (p0.bel ((((Bel.refl _).trans b1).alloc _).trans b2)) (p1.bel ((((Bel.refl _).trans b1).alloc _).trans b2)) (by omega) (by omega)).mono ?_); rintro e w3 ⟨v3, rfl, n3, b3⟩
  go_wp2_with fail
  (with_reducible refine (nSub n3 (p1.bel (((((Bel.refl _).trans b1).alloc _).trans b2).trans b3)) (by omega) (Nat.le_add_left _ _)).mono ?_); rintro e w4 ⟨v4, rfl, n4, b4⟩
  go_wp2_with fail
  (with_reducible refine (nSub (p0.bel ((((((Bel.refl _).trans b1).alloc _).trans b2).trans b3).trans b4)) (p1.bel ((((((Bel.refl _).trans b1).alloc _).trans b2).trans b3).trans b4)) (by omega) (Nat.le_of_eq HXY.out.symm)).mono ?_); rintro e w5 ⟨v5, rfl, n5, b5⟩
  go_wp2_with fail
  (with_reducible refine (nCmpEq (p0.bel (((((((Bel.refl _).trans b1).alloc _).trans b2).trans b3).trans b4).trans b5)) (p1.bel (((((((Bel.refl _).trans b1).alloc _).trans b2).trans b3).trans b4).trans b5)) HXY.out).mono ?_); rintro e w6 ⟨rfl, b6⟩
  go_wp2_with fail
  (with_reducible refine (same (n4.bel (((Bel.refl _).trans b5).trans b6)) (p0.bel ((((((((Bel.refl _).trans b1).alloc _).trans b2).trans b3).trans b4).trans b5).trans b6)) (Nat.add_sub_cancel _ _)).mono ?_); rintro e w7 ⟨rfl, b7⟩
  go_wp2_with fail
  (with_reducible refine (same (p0.bel (((((((((Bel.refl _).trans b1).alloc _).trans b2).trans b3).trans b4).trans b5).trans b6).trans b7)) (p1.bel (((((((((Bel.refl _).trans b1).alloc _).trans b2).trans b3).trans b4).trans b5).trans b6).trans b7)) HXY.out).mono ?_); rintro e w8 ⟨rfl, b8⟩
  go_wp2_with fail
  (with_reducible refine (nCmpEq (p1.bel ((((((((((Bel.refl _).trans b1).alloc _).trans b2).trans b3).trans b4).trans b5).trans b6).trans b7).trans b8)) (p0.bel ((((((((((Bel.refl _).trans b1).alloc _).trans b2).trans b3).trans b4).trans b5).trans b6).trans b7).trans b8)) HXY.out.symm).mono ?_); rintro e w9 ⟨rfl, b9⟩
  go_wp2_with fail
  (with_reducible refine (rRight (n5.bel (((((Bel.refl _).trans b6).trans b7).trans b8).trans b9)) (by omega)).mono ?_); rintro e w10 ⟨rfl, b10⟩
  go_wp2_with fail
  (with_reducible refine (nAdd (n5.bel ((((((Bel.refl _).trans b6).trans b7).trans b8).trans b9).trans b10)) (p1.bel ((((((((((((Bel.refl _).trans b1).alloc _).trans b2).trans b3).trans b4).trans b5).trans b6).trans b7).trans b8).trans b9).trans b10)) (by omega) (by omega)).mono ?_); rintro e w11 ⟨v11, rfl, n11, b11⟩
  go_wp2_with fail
  (with_reducible refine (same n11 (p0.bel (((((((((((((Bel.refl _).trans b1).alloc _).trans b2).trans b3).trans b4).trans b5).trans b6).trans b7).trans b8).trans b9).trans b10).trans b11)) (Nat.sub_add_cancel (Nat.le_of_eq HXY.out.symm))).mono ?_); rintro e w12 ⟨rfl, b12⟩
  go_wp2_with fail
  go_ret
  exact ⟨rfl, ((((((((((((((Bel.refl _).trans b1).alloc _).trans b2).trans b3).trans b4).trans b5).trans b6).trans b7).trans b8).trans b9).trans b10).trans b11).trans b12)⟩
set_option maxHeartbeats 4000000 in
theorem subGt (A0 : Option Addr) (c0 x : Nat) (A1 : Option Addr) (c1 y : Nat) (w : World) (p0 : Nm w (.slice A0 (digs x).length c0) x 30) (p1 : Nm w (.slice A1 (digs y).length c1) y 30) (HXY : Ho (y < x))
    (HG : Ho (∀ W, Bel w W → Calls Try.prog 15 #[.slice (some ⟨W.heap.size, 0, none⟩) 2 2] (W.alloc (.cells #[.slice A0 (digs x).length c0, .slice A1 (digs y).length c1] 22)) fun e w' => e = .returned (.bool false) ∧ W.alloc (.cells #[.slice A0 (digs x).length c0, .slice A1 (digs y).length c1] 22) = w')) :
    Calls Try.prog 5 #[.slice A0 (digs x).length c0, .slice A1 (digs y).length c1] w (Tells w (.bool true)) := by
  go_enter Try.func5, Try.ntmps5
  go_wp2_with fail
  (with_reducible refine (L3.head_calls _).mono ?_); rintro e w1 ⟨rfl, b1⟩
  go_wp2_with fail
  (with_reducible refine ((HG.out w1 b1).mono tells_quiet).mono ?_); rintro e w2 ⟨rfl, b2⟩
  go_wp2_with fail
  (with_reducible refine (nAdd (p0.bel ((((Bel.refl _).trans b1).alloc _).trans b2)) (p1.bel ((((Bel.refl _).trans b1).alloc _).trans b2)) (by omega) (by omega)).mono ?_); rintro e w3 ⟨v3, rfl, n3, b3⟩
  go_wp2_with fail
  (with_reducible refine (nSub n3 (p1.bel (((((Bel.refl _).trans b1).alloc _).trans b2).trans b3)) (by omega) (Nat.le_add_left _ _)).mono ?_); rintro e w4 ⟨v4, rfl, n4, b4⟩
  go_wp2_with fail
  (with_reducible refine (nSub (p0.bel ((((((Bel.refl _).trans b1).alloc _).trans b2).trans b3).trans b4)) (p1.bel ((((((Bel.refl _).trans b1).alloc _).trans b2).trans b3).trans b4)) (by omega) (Nat.le_of_lt HXY.out)).mono ?_); rintro e w5 ⟨v5, rfl, n5, b5⟩
  go_wp2_with fail
  (with_reducible refine (nCmpGt (p0.bel (((((((Bel.refl _).trans b1).alloc _).trans b2).trans b3).trans b4).trans b5)) (p1.bel (((((((Bel.refl _).trans b1).alloc _).trans b2).trans b3).trans b4).trans b5)) HXY.out).mono ?_); rintro e w6 ⟨rfl, b6⟩
  go_wp2_with fail
  (with_reducible refine (same (n4.bel (((Bel.refl _).trans b5).trans b6)) (p0.bel ((((((((Bel.refl _).trans b1).alloc _).trans b2).trans b3).trans b4).trans b5).trans b6)) (Nat.add_sub_cancel _ _)).mono ?_); rintro e w7 ⟨rfl, b7⟩
  go_wp2_with fail
  (with_reducible refine (sameNo (p0.bel (((((((((Bel.refl _).trans b1).alloc _).trans b2).trans b3).trans b4).trans b5).trans b6).trans b7)) (p1.bel (((((((((Bel.refl _).trans b1).alloc _).trans b2).trans b3).trans b4).trans b5).trans b6).trans b7)) (Nat.ne_of_gt HXY.out)).mono ?_); rintro e w8 ⟨rfl, b8⟩
  go_wp2_with fail
  (with_reducible refine (nCmpLt (p1.bel ((((((((((Bel.refl _).trans b1).alloc _).trans b2).trans b3).trans b4).trans b5).trans b6).trans b7).trans b8)) (p0.bel ((((((((((Bel.refl _).trans b1).alloc _).trans b2).trans b3).trans b4).trans b5).trans b6).trans b7).trans b8)) HXY.out).mono ?_); rintro e w9 ⟨rfl, b9⟩
  go_wp2_with fail
  (with_reducible refine (rRight (n5.bel (((((Bel.refl _).trans b6).trans b7).trans b8).trans b9)) (by omega)).mono ?_); rintro e w10 ⟨rfl, b10⟩
  go_wp2_with fail
  (with_reducible refine (nAdd (n5.bel ((((((Bel.refl _).trans b6).trans b7).trans b8).trans b9).trans b10)) (p1.bel ((((((((((((Bel.refl _).trans b1).alloc _).trans b2).trans b3).trans b4).trans b5).trans b6).trans b7).trans b8).trans b9).trans b10)) (by omega) (by omega)).mono ?_); rintro e w11 ⟨v11, rfl, n11, b11⟩
  go_wp2_with fail
  (with_reducible refine (same n11 (p0.bel (((((((((((((Bel.refl _).trans b1).alloc _).trans b2).trans b3).trans b4).trans b5).trans b6).trans b7).trans b8).trans b9).trans b10).trans b11)) (Nat.sub_add_cancel (Nat.le_of_lt HXY.out))).mono ?_); rintro e w12 ⟨rfl, b12⟩
  go_wp2_with fail
  go_ret
  exact ⟨rfl, ((((((((((((((Bel.refl _).trans b1).alloc _).trans b2).trans b3).trans b4).trans b5).trans b6).trans b7).trans b8).trans b9).trans b10).trans b11).trans b12)⟩
set_option maxHeartbeats 4000000 in
theorem natSub_calls (A0 : Option Addr) (c0 : Nat) (l0 : List Int) (A1 : Option Addr) (c1 : Nat) (l1 : List Int) (w : World) (h0 : Rd w A0 l0) (k0 : l0.length ≤ c0) (h1 : Rd w A1 l1) (k1 : l1.length ≤ c1) :
    Calls Try.prog 5 #[.slice A0 l0.length c0, .slice A1 l1.length c1] w (Tells w (.bool true)) := by
  have HG := Ho.mk (great2_of c0 c1 h0 h1)
  cases hg : (([⟨A0, c0, l0⟩, ⟨A1, c1, l1⟩] : List L1.Row).any fun r => L1.bad r.l) with
  | true =>
    rw [hg] at HG
    clear hg
    go_enter Try.func5, Try.ntmps5
    go_wp2_with fail
    (with_reducible refine (L3.head_calls _).mono ?_); rintro e w1 ⟨rfl, b1⟩
    go_wp2_with fail
    (with_reducible refine ((HG.out w1 b1).mono tells_quiet).mono ?_); rintro e w2 ⟨rfl, b2⟩
    go_wp2_with fail
    go_ret
    exact ⟨rfl, (b1.alloc _).trans b2⟩
  | false =>
    rw [hg] at HG
    simp only [List.any_cons, List.any_nil, Bool.or_false, Bool.or_eq_false_iff] at hg
    obtain ⟨hb0, hb1⟩ := hg
    obtain ⟨x, rfl, s0⟩ := L1.bad_not hb0
    obtain ⟨y, rfl, s1⟩ := L1.bad_not hb1
    have p0 : Nm w (.slice A0 (digs x).length c0) x 30 := ⟨⟨A0, c0, rfl, k0, h0⟩, s0⟩
    have p1 : Nm w (.slice A1 (digs y).length c1) y 30 := ⟨⟨A1, c1, rfl, k1, h1⟩, s1⟩
    clear h0 k0 s0 h1 k1 s1
    rcases Nat.lt_trichotomy x y with hxy | hxy | hxy
    · exact subLt A0 c0 x A1 c1 y w p0 p1 ⟨hxy⟩ HG
    · exact subEq A0 c0 x A1 c1 y w p0 p1 ⟨hxy⟩ HG
    · exact subGt A0 c0 x A1 c1 y w p0 p1 ⟨hxy⟩ HG
end Go.Proofs.Ytpgdiebmdcbgfaa.L7
