/-
  The walks of package dya: zero, raised, Shift, Flip, Sign, Of.
-/
import Derived.Test.YtnmjnjhijcnbcaaDoorE1
set_option linter.unusedVariables false
set_option linter.unusedSimpArgs false
namespace Go.Proofs.YtnmjnjhijcnbcaaDoor.E2
open Go Go.RowKit Go.Proofs.YtnmjnjhijcnbcaaDoor Go.Proofs.YtnmjnjhijcnbcaaDoor.Ow Go.Proofs.YtnmjnjhijcnbcaaDoor.Pl Go.Proofs.YtnmjnjhijcnbcaaDoor.Dp Go.Proofs.YtnmjnjhijcnbcaaDoor.Dt Go.Proofs.YtnmjnjhijcnbcaaDoor.D3 Go.Proofs.YtnmjnjhijcnbcaaDoor.E1

theorem zeroT_calls (A : Option Addr) (c : Nat) (n : Bool) (e : Int) (w : World) :
    Calls Tryd.prog 51 #[.agg #[.bool n, .slice A 0 c, .int .i64 e]] w fun e w' => e = .returned (.bool true) ∧ Bel w w' := by
  go_enter Tryd.func51, Tryd.ntmps51
  go_wp2
  go_ret
  exact ⟨rfl, (Bel.refl w).alloc _⟩
theorem zeroF_calls (A : Option Addr) (c x : Nat) (n : Bool) (e : Int) (w : World) (hx : x ≠ 0) :
    Calls Tryd.prog 51 #[.agg #[.bool n, .slice A (digs x).length c, .int .i64 e]] w fun e w' => e = .returned (.bool false) ∧ Bel w w' := by
  have hb : (((digs x).length : Int) == 0) = false := beq_eq_false_iff_ne.mpr (fun q => hx (digs_nil.1 (List.length_eq_zero_iff.1 (Int.ofNat.inj q))))
  clear hx
  go_enter Tryd.func51, Tryd.ntmps51
  go_wp2
  go_ret
  exact ⟨rfl, (Bel.refl w).alloc _⟩
/-- A row is handed back. -/
def Row (w : World) (x : Nat) (e : Ending) (w' : World) : Prop :=
  ∃ A c, e = .returned (.slice A (digs x).length c) ∧ (digs x).length ≤ c ∧ Rd w' A (digs x) ∧ Bel w w'
theorem raised_calls (A : Option Addr) (c x k : Nat) (n : Bool) (e e0 : Int) (w : World) (h : Rd w A (digs x)) (hc : (digs x).length ≤ c) (hx : (digs x).length ≤ 4000) (hk : e - e0 = k) (hk5 : k ≤ 100000) (b0 : -50000 ≤ e) (b1 : e ≤ 50000) (b2 : -50000 ≤ e0) (b3 : e0 ≤ 50000) :
    Calls Tryd.prog 54 #[.agg #[.bool n, .slice A (digs x).length c, .int .i64 e], .int .i64 e0] w (Row w (x * 2 ^ k)) := by
  have SH := Ho.mk (fun (W : World) (g : Bel w W) => N9.shl_calls A c x k (k : Int) W (h.bel g) hc (by omega) (Int.toNat_natCast _).symm (by omega))
  clear h hx
  go_enter Tryd.func54, Tryd.ntmps54
  go_wp2_with fail
  (with_reducible refine (SH.out _ ((Bel.refl w).alloc _)).mono ?_); rintro r w2 ⟨A2, c2, rfl, hc2, hr2, hb2⟩
  have HR := Ho.mk hr2
  have HB := Ho.mk hb2
  clear hr2 hb2
  go_wp2
  go_ret
  exact ⟨A2, c2, rfl, hc2, HR.out, ((Bel.refl w).alloc _).trans HB.out⟩
set_option maxHeartbeats 1000000 in
theorem shift_calls (A : Option Addr) (c : Nat) (v k : Int) (w : World) (T : Tab w) (h : Rd w A (digs (dm v))) (hc : (digs (dm v)).length ≤ c) (hx : (digs (dm v)).length ≤ 4000) (he0 : -20000 ≤ de v) (he1 : de v ≤ 20000) (hk0 : -20000 ≤ k) (hk1 : k ≤ 20000) :
    Calls Tryd.prog 30 #[.agg #[.bool (dneg v), .slice A (digs (dm v)).length c, .int .i64 (de v)], .int .i64 k] w (Gives w (sc (dneg v) (dm v) (de v + k))) := by
  have MK := Ho.mk (fun (W : World) (g : Bel w W) => make_calls A c (dm v) (dneg v) (de v + k) W (T.bel g) (h.bel g) hc hx (by omega) (by omega))
  obtain ⟨r, hr⟩ : ∃ r, r = sc (dneg v) (dm v) (de v + k) := ⟨_, rfl⟩
  rw [← hr] at MK ⊢
  clear hr h hx
  generalize dneg v = n at *
  generalize de v = ev at *
  generalize digs (dm v) = l at *
  go_enter Tryd.func30, Tryd.ntmps30
  go_wp2_with fail
  have KB := Ho.mk (Blk.new (w.alloc (.cells #[.bool n, .slice A l.length c, .int .i64 ev] 24)) [.bool false, .slice none 0 0, .int .i64 0] 24)
  (with_reducible refine (MK.out _ (((Bel.refl w).alloc _).alloc _)).mono ?_); rintro e w1 ⟨A2, c2, rfl, hc2, hr2, hb2⟩
  rw [World.size_alloc] at KB
  have HB2 := Ho.mk ((((Bel.refl w).alloc _).alloc _).trans hb2)
  have KB2 := Ho.mk (KB.out.bel hb2)
  have y0 := KB2.out.cell (i := 0) rfl
  have y1 := KB2.out.cell (i := 1) rfl
  have y2 := KB2.out.cell (i := 2) rfl
  have z0 := KB2.out.free 0
  have z1 := KB2.out.free 1
  have z2 := KB2.out.free 2
  have HR2 := Ho.mk hr2
  clear hr2 hb2 KB
  go_wp2
  exact gives_end (fn := Tryd.f30) rfl rfl HB2.out (by omega) KB2.out HR2.out hc2
set_option maxHeartbeats 1000000 in
theorem flip_calls (A : Option Addr) (c : Nat) (v : Int) (w : World) (T : Tab w) (h : Rd w A (digs (dm v))) (hc : (digs (dm v)).length ≤ c) (hx : (digs (dm v)).length ≤ 4000) (he0 : -20000 ≤ de v) (he1 : de v ≤ 20000) :
    Calls Tryd.prog 28 #[.agg #[.bool (dneg v), .slice A (digs (dm v)).length c, .int .i64 (de v)]] w (Gives w (-v)) := by
  have MK := Ho.mk (fun (W : World) (g : Bel w W) => make_calls A c (dm v) (!dneg v) (de v) W (T.bel g) (h.bel g) hc hx (by omega) (by omega))
  rw [sc_flip, sc_self] at MK
  generalize - v = r at *
  clear h hx
  generalize dneg v = n at *
  generalize de v = ev at *
  generalize digs (dm v) = l at *
  go_enter Tryd.func28, Tryd.ntmps28
  go_wp2_with fail
  have KB := Ho.mk (Blk.new (w.alloc (.cells #[.bool n, .slice A l.length c, .int .i64 ev] 24)) [.bool false, .slice none 0 0, .int .i64 0] 24)
  (with_reducible refine (MK.out _ (((Bel.refl w).alloc _).alloc _)).mono ?_); rintro e w1 ⟨A2, c2, rfl, hc2, hr2, hb2⟩
  rw [World.size_alloc] at KB
  have HB2 := Ho.mk ((((Bel.refl w).alloc _).alloc _).trans hb2)
  have KB2 := Ho.mk (KB.out.bel hb2)
  have y0 := KB2.out.cell (i := 0) rfl
  have y1 := KB2.out.cell (i := 1) rfl
  have y2 := KB2.out.cell (i := 2) rfl
  have z0 := KB2.out.free 0
  have z1 := KB2.out.free 1
  have z2 := KB2.out.free 2
  have HR2 := Ho.mk hr2
  clear hr2 hb2 KB
  go_wp2
  exact gives_end (fn := Tryd.f28) rfl rfl HB2.out (by omega) KB2.out HR2.out hc2
set_option maxHeartbeats 1000000 in
theorem sign_calls (A : Option Addr) (c : Nat) (v : Int) (w : World) :
    Calls Tryd.prog 26 #[.agg #[.bool (dneg v), .slice A (digs (dm v)).length c, .int .i64 (de v)]] w fun e w' => e = .returned (.int .i64 (sgn v)) ∧ Bel w w' := by
  by_cases h0 : v = 0
  · subst h0
    have e : Ho (sgn 0 = 0) := ⟨rfl⟩
    rw [show dm 0 = 0 from odd_zero, digs_zero, e.out]
    generalize dneg 0 = n
    generalize de 0 = ev
    go_enter Tryd.func26, Tryd.ntmps26
    go_wp2_with fail
    (with_reducible refine (zeroT_calls _ _ _ _ _).mono ?_); rintro r w1 ⟨rfl, hb1⟩
    have HB := Ho.mk hb1
    clear hb1
    go_wp2
    go_ret
    exact ⟨rfl, (((Bel.refl w).alloc _).alloc _).trans HB.out⟩
  · have Z := Ho.mk (fun (W : World) => zeroF_calls A c (dm v) (dneg v) (de v) W (fun q => h0 (dm_zero.1 q)))
    have S : Ho (dneg v = true → sgn v = -1) := ⟨fun q => cmpI_lt (of_decide_eq_true q)⟩
    have S2 : Ho (dneg v = false → sgn v = 1) := ⟨fun q => cmpI_gt (by have := of_decide_eq_false q; omega)⟩
    clear h0
    generalize sgn v = s at *
    generalize dneg v = n at *
    generalize de v = ev at *
    generalize digs (dm v) = l at *
    have KB := Ho.mk (Blk.new (w.alloc (.cells #[.bool n, .slice A l.length c, .int .i64 ev] 24)) [.bool n, .slice A l.length c, .int .i64 ev] 58)
    rw [World.size_alloc] at KB
    cases n
    · go_enter Tryd.func26, Tryd.ntmps26
      go_wp2_with fail
      (with_reducible refine (Z.out _).mono ?_); rintro r w1 ⟨rfl, hb1⟩
      have HB := Ho.mk hb1
      have KB1 := Ho.mk (KB.out.bel hb1)
      have y0 := KB1.out.cell (i := 0) rfl
      have y1 := KB1.out.cell (i := 1) rfl
      have y2 := KB1.out.cell (i := 2) rfl
      clear hb1
      go_wp2
      go_ret
      exact ⟨by rw [S2.out trivial]; rfl, (((Bel.refl w).alloc _).alloc _).trans HB.out⟩
    · go_enter Tryd.func26, Tryd.ntmps26
      go_wp2_with fail
      (with_reducible refine (Z.out _).mono ?_); rintro r w1 ⟨rfl, hb1⟩
      have HB := Ho.mk hb1
      have KB1 := Ho.mk (KB.out.bel hb1)
      have y0 := KB1.out.cell (i := 0) rfl
      have y1 := KB1.out.cell (i := 1) rfl
      have y2 := KB1.out.cell (i := 2) rfl
      clear hb1
      go_wp2
      go_ret
      exact ⟨by rw [S.out trivial]; rfl, (((Bel.refl w).alloc _).alloc _).trans HB.out⟩
set_option maxHeartbeats 1000000 in
theorem of_calls (n : Int) (w : World) (T : Tab w) (h0 : -9223372036854775807 ≤ n) (h1 : n ≤ 9223372036854775807) :
    Calls Tryd.prog 34 #[.int .i64 n] w (Gives w (sc (decide (n < 0)) n.natAbs 0)) := by
  have hl : (digs n.natAbs).length ≤ 3 := D5.of_len (by omega)
  have KB := Ho.mk (Blk.new w [.bool false, .slice none 0 0, .int .i64 0] 24)
  have HB := Ho.mk ((Bel.refl w).alloc (.cells #[.bool false, .slice none 0 0, .int .i64 0] 24))
  have MK := Ho.mk (fun (A : Option Addr) (c : Nat) (W : World) (T : Tab W) (g : Rd W A (digs n.natAbs)) (hc : (digs n.natAbs).length ≤ c) => make_calls A c n.natAbs (decide (n < 0)) 0 W T g hc (by omega) (by omega) (by omega))
  obtain ⟨r, hr⟩ : ∃ r, r = sc (decide (n < 0)) n.natAbs 0 := ⟨_, rfl⟩
  rw [← hr] at MK ⊢
  clear hr hl
  rcases Int.lt_or_le n 0 with hn | hn
  · have OF := Ho.mk (fun (W : World) => R2.natOf_calls (-n) n.natAbs W (by omega) (by omega))
    rw [decide_eq_true hn] at MK
    go_enter Tryd.func34, Tryd.ntmps34
    go_wp2_with fail
    (with_reducible refine (OF.out _).mono ?_); rintro e w1 ⟨A3, c3, rfl, hc3, hr3, hb3⟩
    go_wp2_with fail
    (with_reducible refine (MK.out _ _ _ (T.bel (HB.out.trans hb3)) hr3 hc3).mono ?_); rintro e w2 ⟨A4, c4, rfl, hc4, hr4, hb4⟩
    have KB2 := Ho.mk (KB.out.bel (hb3.trans hb4))
    have HB2 := Ho.mk (HB.out.trans (hb3.trans hb4))
    have y0 := KB2.out.cell (i := 0) rfl
    have y1 := KB2.out.cell (i := 1) rfl
    have y2 := KB2.out.cell (i := 2) rfl
    have z0 := KB2.out.free 0
    have z1 := KB2.out.free 1
    have z2 := KB2.out.free 2
    have HR4 := Ho.mk hr4
    clear hr4 hr3 hb3 hb4
    go_wp2
    exact gives_end (fn := Tryd.f34) rfl rfl HB2.out (by omega) KB2.out HR4.out hc4
  · have OF := Ho.mk (fun (W : World) => R2.natOf_calls n n.natAbs W (by omega) (by omega))
    have hd : decide (n < 0) = false := decide_eq_false (by omega)
    rw [hd] at MK
    go_enter Tryd.func34, Tryd.ntmps34
    go_wp2_with fail
    (with_reducible refine (OF.out _).mono ?_); rintro e w1 ⟨A3, c3, rfl, hc3, hr3, hb3⟩
    go_wp2_with fail
    (with_reducible refine (MK.out _ _ _ (T.bel (HB.out.trans hb3)) hr3 hc3).mono ?_); rintro e w2 ⟨A4, c4, rfl, hc4, hr4, hb4⟩
    have KB2 := Ho.mk (KB.out.bel (hb3.trans hb4))
    have HB2 := Ho.mk (HB.out.trans (hb3.trans hb4))
    have y0 := KB2.out.cell (i := 0) rfl
    have y1 := KB2.out.cell (i := 1) rfl
    have y2 := KB2.out.cell (i := 2) rfl
    have z0 := KB2.out.free 0
    have z1 := KB2.out.free 1
    have z2 := KB2.out.free 2
    have HR4 := Ho.mk hr4
    clear hr4 hr3 hb3 hb4
    go_wp2
    exact gives_end (fn := Tryd.f34) rfl rfl HB2.out (by omega) KB2.out HR4.out hc4
end Go.Proofs.YtnmjnjhijcnbcaaDoor.E2
