/-
  The walk of NatTells (its steps are printed by gen_law.py).
-/
import Derived.Test.YtpgdiebmdcbgfaaL5
set_option linter.unusedVariables false
set_option linter.unusedSimpArgs false
namespace Go.Proofs.Ytpgdiebmdcbgfaa.La
open Go.RowKit Go.Proofs.Ytpgdiebmdcbgfaa Go.Proofs.Ytpgdiebmdcbgfaa.Ow Go.Proofs.Ytpgdiebmdcbgfaa.Pl Go.Proofs.Ytpgdiebmdcbgfaa.L2 Go.Proofs.Ytpgdiebmdcbgfaa.L5

theorem great2_of {w : World} {A0 : Option Addr} {A1 : Option Addr} (c0 : Nat) (c1 : Nat) {l0 : List Int} {l1 : List Int} (h0 : Rd w A0 l0) (h1 : Rd w A1 l1) (W : World) (g : Bel w W) :
    Calls Try.prog 15 #[.slice (some ⟨W.heap.size, 0, none⟩) 2 2] (W.alloc (.cells #[.slice A0 l0.length c0, .slice A1 l1.length c1] 22)) fun e w' => e = .returned (.bool (([⟨A0, c0, l0⟩, ⟨A1, c1, l1⟩] : List L1.Row).any fun r => L1.bad r.l)) ∧ W.alloc (.cells #[.slice A0 l0.length c0, .slice A1 l1.length c1] 22) = w' :=
  L1.great_calls W.heap.size 2 [⟨A0, c0, l0⟩, ⟨A1, c1, l1⟩] _ rfl (by decide) (Blk.new W [.slice A0 l0.length c0, .slice A1 l1.length c1] 22) (by
    intro r hr
    simp only [List.mem_cons, List.not_mem_nil, or_false] at hr
    rcases hr with rfl | rfl
    · exact (h0.bel g).bel ((Bel.refl _).alloc _)
    · exact (h1.bel g).bel ((Bel.refl _).alloc _)
    )

set_option maxRecDepth 100000 in
set_option maxHeartbeats 4000000 in
theorem tellsAll (A0 : Option Addr) (c0 x : Nat) (A1 : Option Addr) (c1 y : Nat) (A9 : Option Addr) (c9 : Nat) (l9 : List Int) (k n : Int) (kn : Nat) (w : World) (p0 : Nm w (.slice A0 (digs x).length c0) x 30) (p1 : Nm w (.slice A1 (digs y).length c1) y 30) (H9 : Ho (Rd w A9 l9)) (hm9 : l9.length ≤ 400) (hn : n ≤ 9223372036854775807) (HN : Ho ((digs n.toNat).length ≤ 3)) (HK : Ho (kn = k.toNat)) (hk : k ≤ 500) (hkn : kn ≤ 500)
    (HG : Ho (∀ W, Bel w W → Calls Try.prog 15 #[.slice (some ⟨W.heap.size, 0, none⟩) 2 2] (W.alloc (.cells #[.slice A0 (digs x).length c0, .slice A1 (digs y).length c1] 22)) fun e w' => e = .returned (.bool false) ∧ W.alloc (.cells #[.slice A0 (digs x).length c0, .slice A1 (digs y).length c1] 22) = w')) :
    Calls Try.prog 3 #[.slice A0 (digs x).length c0, .slice A1 (digs y).length c1, .int .i64 k, .int .i64 n, .slice A9 l9.length c9] w (Tells w (.bool true)) := by
  go_enter Try.func3, Try.ntmps3
  go_wp2_with fail
  (with_reducible refine (L3.head_calls _).mono ?_); rintro e w1 ⟨rfl, b1⟩
  go_wp2_with fail
  (with_reducible refine ((N7.right_calls A9 c9 l9 _ (H9.out.bel b1)).mono tells_quiet).mono ?_); rintro e w2 ⟨rfl, b2⟩
  go_wp2_with fail
  (with_reducible refine ((R3.right_calls A9 c9 l9 _ (H9.out.bel (b1.trans b2))).mono tells_quiet).mono ?_); rintro e w3 ⟨rfl, b3⟩
  go_wp2_with fail
  (with_reducible refine (nOf (N := n.toNat) (n := n) (a := 3) rfl hn HN.out).mono ?_); rintro e w4 ⟨v4, rfl, n4, b4⟩
  go_wp2_with fail
  (with_reducible refine (rOf (N := n.toNat) (n := n) (a := 3) rfl hn HN.out).mono ?_); rintro e w5 ⟨v5, rfl, n5, b5⟩
  go_wp2_with fail
  (with_reducible refine (same (n4.bel ((Bel.refl _).trans b5)) n5 rfl).mono ?_); rintro e w6 ⟨rfl, b6⟩
  go_wp2_with fail
  (with_reducible refine ((HG.out w6 (((((b1.trans b2).trans b3).trans b4).trans b5).trans b6)).mono tells_quiet).mono ?_); rintro e w7 ⟨rfl, b7⟩
  go_wp2_with fail
  (with_reducible refine (nSubAny (p0.bel (((((((((Bel.refl _).trans b1).trans b2).trans b3).trans b4).trans b5).trans b6).alloc _).trans b7)) (p1.bel (((((((((Bel.refl _).trans b1).trans b2).trans b3).trans b4).trans b5).trans b6).alloc _).trans b7)) (by omega)).mono ?_); rintro e w8 ⟨v8, rfl, n8, b8⟩
  go_wp2_with fail
  (with_reducible refine (rSubAny (p0.bel ((((((((((Bel.refl _).trans b1).trans b2).trans b3).trans b4).trans b5).trans b6).alloc _).trans b7).trans b8)) (p1.bel ((((((((((Bel.refl _).trans b1).trans b2).trans b3).trans b4).trans b5).trans b6).alloc _).trans b7).trans b8)) (by omega)).mono ?_); rintro e w9 ⟨v9, rfl, n9, b9⟩
  go_wp2_with fail
  (with_reducible refine (nIntAny (p0.bel (((((((((((Bel.refl _).trans b1).trans b2).trans b3).trans b4).trans b5).trans b6).alloc _).trans b7).trans b8).trans b9))).mono ?_); rintro e w10 ⟨rfl, b10⟩
  go_wp2_with fail
  (with_reducible refine (rIntAny (p0.bel ((((((((((((Bel.refl _).trans b1).trans b2).trans b3).trans b4).trans b5).trans b6).alloc _).trans b7).trans b8).trans b9).trans b10))).mono ?_); rintro e w11 ⟨rfl, b11⟩
  go_wp2_with fail
  (with_reducible refine (nAdd (p0.bel (((((((((((((Bel.refl _).trans b1).trans b2).trans b3).trans b4).trans b5).trans b6).alloc _).trans b7).trans b8).trans b9).trans b10).trans b11)) (p1.bel (((((((((((((Bel.refl _).trans b1).trans b2).trans b3).trans b4).trans b5).trans b6).alloc _).trans b7).trans b8).trans b9).trans b10).trans b11)) (by omega) (by omega)).mono ?_); rintro e w12 ⟨v12, rfl, n12, b12⟩
  go_wp2_with fail
  (with_reducible refine (rAdd (p0.bel ((((((((((((((Bel.refl _).trans b1).trans b2).trans b3).trans b4).trans b5).trans b6).alloc _).trans b7).trans b8).trans b9).trans b10).trans b11).trans b12)) (p1.bel ((((((((((((((Bel.refl _).trans b1).trans b2).trans b3).trans b4).trans b5).trans b6).alloc _).trans b7).trans b8).trans b9).trans b10).trans b11).trans b12)) (by omega) (by omega)).mono ?_); rintro e w13 ⟨v13, rfl, n13, b13⟩
  go_wp2_with fail
  (with_reducible refine (same (n12.bel ((Bel.refl _).trans b13)) n13 rfl).mono ?_); rintro e w14 ⟨rfl, b14⟩
  go_wp2_with fail
  (with_reducible refine (nMul (p0.bel ((((((((((((((((Bel.refl _).trans b1).trans b2).trans b3).trans b4).trans b5).trans b6).alloc _).trans b7).trans b8).trans b9).trans b10).trans b11).trans b12).trans b13).trans b14)) (p1.bel ((((((((((((((((Bel.refl _).trans b1).trans b2).trans b3).trans b4).trans b5).trans b6).alloc _).trans b7).trans b8).trans b9).trans b10).trans b11).trans b12).trans b13).trans b14)) (by omega) (by omega)).mono ?_); rintro e w15 ⟨v15, rfl, n15, b15⟩
  go_wp2_with fail
  (with_reducible refine (rMul (p0.bel (((((((((((((((((Bel.refl _).trans b1).trans b2).trans b3).trans b4).trans b5).trans b6).alloc _).trans b7).trans b8).trans b9).trans b10).trans b11).trans b12).trans b13).trans b14).trans b15)) (p1.bel (((((((((((((((((Bel.refl _).trans b1).trans b2).trans b3).trans b4).trans b5).trans b6).alloc _).trans b7).trans b8).trans b9).trans b10).trans b11).trans b12).trans b13).trans b14).trans b15)) (by omega) (by omega)).mono ?_); rintro e w16 ⟨v16, rfl, n16, b16⟩
  go_wp2_with fail
  (with_reducible refine (same (n15.bel ((Bel.refl _).trans b16)) n16 rfl).mono ?_); rintro e w17 ⟨rfl, b17⟩
  go_wp2_with fail
  (with_reducible refine (same (n8.bel ((((((((((Bel.refl _).trans b9).trans b10).trans b11).trans b12).trans b13).trans b14).trans b15).trans b16).trans b17)) (n9.bel (((((((((Bel.refl _).trans b10).trans b11).trans b12).trans b13).trans b14).trans b15).trans b16).trans b17)) rfl).mono ?_); rintro e w18 ⟨rfl, b18⟩
  go_wp2_with fail
  (with_reducible refine (nCmpAny (p0.bel ((((((((((((((((((((Bel.refl _).trans b1).trans b2).trans b3).trans b4).trans b5).trans b6).alloc _).trans b7).trans b8).trans b9).trans b10).trans b11).trans b12).trans b13).trans b14).trans b15).trans b16).trans b17).trans b18)) (p1.bel ((((((((((((((((((((Bel.refl _).trans b1).trans b2).trans b3).trans b4).trans b5).trans b6).alloc _).trans b7).trans b8).trans b9).trans b10).trans b11).trans b12).trans b13).trans b14).trans b15).trans b16).trans b17).trans b18))).mono ?_); rintro e w19 ⟨rfl, b19⟩
  go_wp2_with fail
  (with_reducible refine (rCmpAny (p0.bel (((((((((((((((((((((Bel.refl _).trans b1).trans b2).trans b3).trans b4).trans b5).trans b6).alloc _).trans b7).trans b8).trans b9).trans b10).trans b11).trans b12).trans b13).trans b14).trans b15).trans b16).trans b17).trans b18).trans b19)) (p1.bel (((((((((((((((((((((Bel.refl _).trans b1).trans b2).trans b3).trans b4).trans b5).trans b6).alloc _).trans b7).trans b8).trans b9).trans b10).trans b11).trans b12).trans b13).trans b14).trans b15).trans b16).trans b17).trans b18).trans b19))).mono ?_); rintro e w20 ⟨rfl, b20⟩
  go_wp2_with fail
  (with_reducible refine (nLenI (p0.bel ((((((((((((((((((((((Bel.refl _).trans b1).trans b2).trans b3).trans b4).trans b5).trans b6).alloc _).trans b7).trans b8).trans b9).trans b10).trans b11).trans b12).trans b13).trans b14).trans b15).trans b16).trans b17).trans b18).trans b19).trans b20)) (m := ((blen x : Nat) : Int)) rfl).mono ?_); rintro e w21 ⟨rfl, b21⟩
  go_wp2_with fail
  (with_reducible refine (rLenI (p0.bel (((((((((((((((((((((((Bel.refl _).trans b1).trans b2).trans b3).trans b4).trans b5).trans b6).alloc _).trans b7).trans b8).trans b9).trans b10).trans b11).trans b12).trans b13).trans b14).trans b15).trans b16).trans b17).trans b18).trans b19).trans b20).trans b21)) (m := ((blen x : Nat) : Int)) rfl).mono ?_); rintro e w22 ⟨rfl, b22⟩
  go_wp2_with fail
  (with_reducible refine (nShl (p0.bel ((((((((((((((((((((((((Bel.refl _).trans b1).trans b2).trans b3).trans b4).trans b5).trans b6).alloc _).trans b7).trans b8).trans b9).trans b10).trans b11).trans b12).trans b13).trans b14).trans b15).trans b16).trans b17).trans b18).trans b19).trans b20).trans b21).trans b22)) (by omega) (kn := kn) HK.out (by omega)).mono ?_); rintro e w23 ⟨v23, rfl, n23, b23⟩
  go_wp2_with fail
  (with_reducible refine (rShl (p0.bel (((((((((((((((((((((((((Bel.refl _).trans b1).trans b2).trans b3).trans b4).trans b5).trans b6).alloc _).trans b7).trans b8).trans b9).trans b10).trans b11).trans b12).trans b13).trans b14).trans b15).trans b16).trans b17).trans b18).trans b19).trans b20).trans b21).trans b22).trans b23)) (by omega) (kn := kn) HK.out (by omega)).mono ?_); rintro e w24 ⟨v24, rfl, n24, b24⟩
  go_wp2_with fail
  (with_reducible refine (same (n23.bel ((Bel.refl _).trans b24)) n24 rfl).mono ?_); rintro e w25 ⟨rfl, b25⟩
  go_wp2_with fail
  (with_reducible refine (nShr (p0.bel (((((((((((((((((((((((((((Bel.refl _).trans b1).trans b2).trans b3).trans b4).trans b5).trans b6).alloc _).trans b7).trans b8).trans b9).trans b10).trans b11).trans b12).trans b13).trans b14).trans b15).trans b16).trans b17).trans b18).trans b19).trans b20).trans b21).trans b22).trans b23).trans b24).trans b25)) (by omega) (kn := kn) HK.out (by omega)).mono ?_); rintro e w26 ⟨v26, rfl, n26, b26⟩
  go_wp2_with fail
  (with_reducible refine (rShr (p0.bel ((((((((((((((((((((((((((((Bel.refl _).trans b1).trans b2).trans b3).trans b4).trans b5).trans b6).alloc _).trans b7).trans b8).trans b9).trans b10).trans b11).trans b12).trans b13).trans b14).trans b15).trans b16).trans b17).trans b18).trans b19).trans b20).trans b21).trans b22).trans b23).trans b24).trans b25).trans b26)) (by omega) (kn := kn) HK.out (by omega)).mono ?_); rintro e w27 ⟨v27, rfl, n27, b27⟩
  go_wp2_with fail
  (with_reducible refine (same (n26.bel ((Bel.refl _).trans b27)) n27 rfl).mono ?_); rintro e w28 ⟨rfl, b28⟩
  go_wp2_with fail
  (with_reducible refine (nRoot (p0.bel ((((((((((((((((((((((((((((((Bel.refl _).trans b1).trans b2).trans b3).trans b4).trans b5).trans b6).alloc _).trans b7).trans b8).trans b9).trans b10).trans b11).trans b12).trans b13).trans b14).trans b15).trans b16).trans b17).trans b18).trans b19).trans b20).trans b21).trans b22).trans b23).trans b24).trans b25).trans b26).trans b27).trans b28)) (by omega)).mono ?_); rintro e w29 ⟨v29, rfl, n29, b29⟩
  go_wp2_with fail
  (with_reducible refine (rRoot (p0.bel (((((((((((((((((((((((((((((((Bel.refl _).trans b1).trans b2).trans b3).trans b4).trans b5).trans b6).alloc _).trans b7).trans b8).trans b9).trans b10).trans b11).trans b12).trans b13).trans b14).trans b15).trans b16).trans b17).trans b18).trans b19).trans b20).trans b21).trans b22).trans b23).trans b24).trans b25).trans b26).trans b27).trans b28).trans b29)) (by omega)).mono ?_); rintro e w30 ⟨v30, rfl, n30, b30⟩
  go_wp2_with fail
  (with_reducible refine (same (n29.bel ((Bel.refl _).trans b30)) n30 rfl).mono ?_); rintro e w31 ⟨rfl, b31⟩
  go_wp2_with fail
  go_ret
  exact ⟨rfl, (((((((((((((((((((((((((((((((((Bel.refl _).trans b1).trans b2).trans b3).trans b4).trans b5).trans b6).alloc _).trans b7).trans b8).trans b9).trans b10).trans b11).trans b12).trans b13).trans b14).trans b15).trans b16).trans b17).trans b18).trans b19).trans b20).trans b21).trans b22).trans b23).trans b24).trans b25).trans b26).trans b27).trans b28).trans b29).trans b30).trans b31)⟩
set_option maxRecDepth 100000 in
set_option maxHeartbeats 4000000 in
theorem tellsLong (A0 : Option Addr) (c0 n0 : Nat) (A1 : Option Addr) (c1 n1 : Nat) (A9 : Option Addr) (c9 : Nat) (l9 : List Int) (k n : Int) (w : World) (hm9 : 400 < l9.length) (hmx : l9.length ≤ 35184372088831) :
    Calls Try.prog 3 #[.slice A0 n0 c0, .slice A1 n1 c1, .int .i64 k, .int .i64 n, .slice A9 l9.length c9] w (Tells w (.bool true)) := by
  go_enter Try.func3, Try.ntmps3
  go_wp2_with fail
  (with_reducible refine (L3.head_calls _).mono ?_); rintro e w1 ⟨rfl, b1⟩
  go_wp2_with fail
  go_ret
  exact ⟨rfl, ((Bel.refl _).trans b1)⟩
set_option maxRecDepth 100000 in
set_option maxHeartbeats 4000000 in
theorem tellsGreat (A0 : Option Addr) (c0 n0 : Nat) (A1 : Option Addr) (c1 n1 : Nat) (A9 : Option Addr) (c9 : Nat) (l9 : List Int) (k n : Int) (w : World) (HG : Ho (∀ W, Bel w W → Calls Try.prog 15 #[.slice (some ⟨W.heap.size, 0, none⟩) 2 2] (W.alloc (.cells #[.slice A0 n0 c0, .slice A1 n1 c1] 22)) fun e w' => e = .returned (.bool true) ∧ W.alloc (.cells #[.slice A0 n0 c0, .slice A1 n1 c1] 22) = w')) (H9 : Ho (Rd w A9 l9)) (hm9 : l9.length ≤ 400) (hn : n ≤ 9223372036854775807) (HN : Ho ((digs n.toNat).length ≤ 3))  :
    Calls Try.prog 3 #[.slice A0 n0 c0, .slice A1 n1 c1, .int .i64 k, .int .i64 n, .slice A9 l9.length c9] w (Tells w (.bool true)) := by
  go_enter Try.func3, Try.ntmps3
  go_wp2_with fail
  (with_reducible refine (L3.head_calls _).mono ?_); rintro e w1 ⟨rfl, b1⟩
  go_wp2_with fail
  (with_reducible refine ((N7.right_calls A9 c9 l9 _ (H9.out.bel b1)).mono tells_quiet).mono ?_); rintro e w2 ⟨rfl, b2⟩
  go_wp2_with fail
  (with_reducible refine ((R3.right_calls A9 c9 l9 _ (H9.out.bel (b1.trans b2))).mono tells_quiet).mono ?_); rintro e w3 ⟨rfl, b3⟩
  go_wp2_with fail
  (with_reducible refine (nOf (N := n.toNat) (n := n) (a := 3) rfl hn HN.out).mono ?_); rintro e w4 ⟨v4, rfl, n4, b4⟩
  go_wp2_with fail
  (with_reducible refine (rOf (N := n.toNat) (n := n) (a := 3) rfl hn HN.out).mono ?_); rintro e w5 ⟨v5, rfl, n5, b5⟩
  go_wp2_with fail
  (with_reducible refine (same (n4.bel ((Bel.refl _).trans b5)) n5 rfl).mono ?_); rintro e w6 ⟨rfl, b6⟩
  go_wp2_with fail
  (with_reducible refine ((HG.out w6 (((((b1.trans b2).trans b3).trans b4).trans b5).trans b6)).mono tells_quiet).mono ?_); rintro e w7 ⟨rfl, b7⟩
  go_wp2_with fail
  go_ret
  exact ⟨rfl, (((((((((Bel.refl _).trans b1).trans b2).trans b3).trans b4).trans b5).trans b6).alloc _).trans b7)⟩
set_option maxRecDepth 100000 in
set_option maxHeartbeats 4000000 in
theorem tellsWide (A0 : Option Addr) (c0 n0 : Nat) (A1 : Option Addr) (c1 n1 : Nat) (A9 : Option Addr) (c9 : Nat) (l9 : List Int) (k n : Int) (w : World) (HG : Ho (∀ W, Bel w W → Calls Try.prog 15 #[.slice (some ⟨W.heap.size, 0, none⟩) 2 2] (W.alloc (.cells #[.slice A0 n0 c0, .slice A1 n1 c1] 22)) fun e w' => e = .returned (.bool false) ∧ W.alloc (.cells #[.slice A0 n0 c0, .slice A1 n1 c1] 22) = w')) (H9 : Ho (Rd w A9 l9)) (hm9 : l9.length ≤ 400) (hn : n ≤ 9223372036854775807) (HN : Ho ((digs n.toNat).length ≤ 3)) (hk : 500 < k) :
    Calls Try.prog 3 #[.slice A0 n0 c0, .slice A1 n1 c1, .int .i64 k, .int .i64 n, .slice A9 l9.length c9] w (Tells w (.bool true)) := by
  go_enter Try.func3, Try.ntmps3
  go_wp2_with fail
  (with_reducible refine (L3.head_calls _).mono ?_); rintro e w1 ⟨rfl, b1⟩
  go_wp2_with fail
  (with_reducible refine ((N7.right_calls A9 c9 l9 _ (H9.out.bel b1)).mono tells_quiet).mono ?_); rintro e w2 ⟨rfl, b2⟩
  go_wp2_with fail
  (with_reducible refine ((R3.right_calls A9 c9 l9 _ (H9.out.bel (b1.trans b2))).mono tells_quiet).mono ?_); rintro e w3 ⟨rfl, b3⟩
  go_wp2_with fail
  (with_reducible refine (nOf (N := n.toNat) (n := n) (a := 3) rfl hn HN.out).mono ?_); rintro e w4 ⟨v4, rfl, n4, b4⟩
  go_wp2_with fail
  (with_reducible refine (rOf (N := n.toNat) (n := n) (a := 3) rfl hn HN.out).mono ?_); rintro e w5 ⟨v5, rfl, n5, b5⟩
  go_wp2_with fail
  (with_reducible refine (same (n4.bel ((Bel.refl _).trans b5)) n5 rfl).mono ?_); rintro e w6 ⟨rfl, b6⟩
  go_wp2_with fail
  (with_reducible refine ((HG.out w6 (((((b1.trans b2).trans b3).trans b4).trans b5).trans b6)).mono tells_quiet).mono ?_); rintro e w7 ⟨rfl, b7⟩
  go_wp2_with fail
  go_ret
  exact ⟨rfl, (((((((((Bel.refl _).trans b1).trans b2).trans b3).trans b4).trans b5).trans b6).alloc _).trans b7)⟩
theorem natTells_calls (A0 : Option Addr) (c0 : Nat) (l0 : List Int) (A1 : Option Addr) (c1 : Nat) (l1 : List Int) (A9 : Option Addr) (c9 : Nat) (l9 : List Int) (k n : Int) (w : World) (h0 : Rd w A0 l0) (k0 : l0.length ≤ c0) (h1 : Rd w A1 l1) (k1 : l1.length ≤ c1) (h9 : Rd w A9 l9) (hn : n ≤ 9223372036854775807) :
    Calls Try.prog 3 #[.slice A0 l0.length c0, .slice A1 l1.length c1, .int .i64 k, .int .i64 n, .slice A9 l9.length c9] w (Tells w (.bool true)) := by
  rcases Nat.lt_or_ge 400 l9.length with hm | hm
  · exact tellsLong A0 c0 _ A1 c1 _ A9 c9 l9 k n w hm h9.max
  have HN : Ho ((digs n.toNat).length ≤ 3) := ⟨digs_len_le.2 (Nat.lt_of_le_of_lt (show n.toNat ≤ 9223372036854775807 by omega) (by decide))⟩
  have HG := Ho.mk (great2_of c0 c1 h0 h1)
  cases hg : (([⟨A0, c0, l0⟩, ⟨A1, c1, l1⟩] : List L1.Row).any fun r => L1.bad r.l) with
  | true =>
    rw [hg] at HG
    exact tellsGreat A0 c0 _ A1 c1 _ A9 c9 l9 k n w HG ⟨h9⟩ hm hn HN
  | false =>
    rw [hg] at HG
    rcases Int.lt_or_le 500 k with hk | hk
    · exact tellsWide A0 c0 _ A1 c1 _ A9 c9 l9 k n w HG ⟨h9⟩ hm hn HN hk
    simp only [List.any_cons, List.any_nil, Bool.or_false, Bool.or_eq_false_iff] at hg
    obtain ⟨hb0, hb1⟩ := hg
    obtain ⟨x, rfl, s0⟩ := L1.bad_not hb0
    obtain ⟨y, rfl, s1⟩ := L1.bad_not hb1
    exact tellsAll A0 c0 x A1 c1 y A9 c9 l9 k n k.toNat w ⟨⟨A0, c0, rfl, k0, h0⟩, s0⟩ ⟨⟨A1, c1, rfl, k1, h1⟩, s1⟩ ⟨h9⟩ hm hn HN ⟨rfl⟩ hk (by omega) HG
end Go.Proofs.Ytpgdiebmdcbgfaa.La
