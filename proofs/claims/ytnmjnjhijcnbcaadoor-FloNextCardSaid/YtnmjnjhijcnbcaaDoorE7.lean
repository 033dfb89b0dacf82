/-
  The walks of package dya and of the document's answer: Right.
-/
import Derived.Test.YtnmjnjhijcnbcaaDoorE6
import Derived.Test.YtnmjnjhijcnbcaaDoorR3
set_option linter.unusedVariables false
set_option linter.unusedSimpArgs false
namespace Go.Proofs.YtnmjnjhijcnbcaaDoor.E7
open Go Go.RowKit Go.Proofs.YtnmjnjhijcnbcaaDoor Go.Proofs.YtnmjnjhijcnbcaaDoor.Ow Go.Proofs.YtnmjnjhijcnbcaaDoor.Pl Go.Proofs.YtnmjnjhijcnbcaaDoor.Dp Go.Proofs.YtnmjnjhijcnbcaaDoor.Dt Go.Proofs.YtnmjnjhijcnbcaaDoor.D3 Go.Proofs.YtnmjnjhijcnbcaaDoor.E1 Go.Proofs.YtnmjnjhijcnbcaaDoor.E2 Go.Proofs.YtnmjnjhijcnbcaaDoor.N7

/-- Is it a number? -/
def rightB (n : Bool) (l : List Int) (e : Int) : Bool := natB l && decide (l.length ≤ 60) && (if l.length = 0 then !n && e == 0 else (nth l 0 % 2 == 1) && decide (-6000 ≤ e) && decide (e ≤ 6000))
theorem right_num {n : Bool} {l : List Int} {e : Int} (h : rightB n l e = true) : l.length ≤ 60 ∧ ∃ v : Int, n = dneg v ∧ l = digs (dm v) ∧ e = de v ∧ -6000 ≤ e ∧ e ≤ 6000 := by
  unfold rightB at h
  simp only [Bool.and_eq_true, decide_eq_true_eq] at h
  obtain ⟨⟨h1, h2⟩, h3⟩ := h
  obtain ⟨x, rfl⟩ := can_digs ((natB_iff l).1 h1).1
  refine ⟨h2, ?_⟩
  by_cases h0 : x = 0
  · subst h0
    rw [if_pos (by rw [digs_zero]; rfl)] at h3
    simp only [Bool.and_eq_true, Bool.not_eq_true', beq_iff_eq] at h3
    obtain ⟨rfl, rfl⟩ := h3
    exact ⟨0, rfl, by rw [show dm 0 = 0 from odd_zero], rfl, by omega, by omega⟩
  · rw [if_neg (fun q => h0 (digs_nil.1 (List.length_eq_zero_iff.1 q)))] at h3
    simp only [Bool.and_eq_true, decide_eq_true_eq, beq_iff_eq] at h3
    obtain ⟨⟨h4, h5⟩, h6⟩ := h3
    rw [D2.nth0] at h4
    have ho : x % 2 = 1 := by omega
    have hs : odd x = x := odd_self ho
    refine ⟨sc n x e, (sc_neg h0).symm, by rw [sc_m, hs], ?_, h5, h6⟩
    rw [sc_e h0 (by unfold K; omega), tz_odd ho]; omega
theorem num_right {v : Int} (h : (digs (dm v)).length ≤ 60) (h1 : -6000 ≤ de v) (h2 : de v ≤ 6000) : rightB (dneg v) (digs (dm v)) (de v) = true := by
  unfold rightB
  have hn : natB (digs (dm v)) = true := (natB_iff _).2 ⟨digs_can _, by omega⟩
  rw [hn, decide_eq_true h]
  by_cases h0 : v = 0
  · subst h0
    rw [show dm 0 = 0 from odd_zero, digs_zero]; rfl
  · rw [if_neg (fun q => h0 (dm_zero.1 (digs_nil.1 (List.length_eq_zero_iff.1 q)))), decide_eq_true h1, decide_eq_true h2]
    have ho := dm_odd h0
    have : (nth (digs (dm v)) 0 % 2 == 1) = true := by rw [D2.nth0, beq_iff_eq]; omega
    rw [this]; rfl

set_option maxRecDepth 100000 in
set_option maxHeartbeats 1000000 in
theorem refRight_calls (A : Option Addr) (c : Nat) (n : Bool) (l : List Int) (e : Int) (w : World) (h : Rd w A l) :
    Calls Tryd.prog 17 #[.agg #[.bool n, .slice A l.length c, .int .i64 e]] w fun r w' => r = .returned (.bool (rightB n l e)) ∧ Bel w w' := by
  have NR := Ho.mk (fun (W : World) (g : Bel w W) => R3.right_calls A c l W (h.bel g))
  have HB := Ho.mk ((Bel.refl w).alloc (.cells #[.bool n, .slice A l.length c, .int .i64 e] 24))
  cases h1 : natB l with
  | false =>
    have E : Ho (rightB n l e = false) := ⟨by unfold rightB; rw [h1]; rfl⟩
    rw [h1] at NR
    clear h1 h
    go_enter Tryd.func17, Tryd.ntmps17
    go_wp2_with fail
    (with_reducible refine (NR.out _ HB.out).mono ?_); rintro r w1 ⟨rfl, rfl⟩
    go_wp2
    go_ret
    exact ⟨by rw [E.out]; rfl, HB.out⟩
  | true =>
    rw [h1] at NR
    rcases Nat.lt_or_ge 60 l.length with h2 | h2
    · have E : Ho (rightB n l e = false) := ⟨by unfold rightB; rw [h1, decide_eq_false (by omega)]; rfl⟩
      have hd : decide (60 < (l.length : Int)) = true := decide_eq_true (by omega)
      clear h1 h h2
      go_enter Tryd.func17, Tryd.ntmps17
      go_wp2_with fail
      (with_reducible refine (NR.out _ HB.out).mono ?_); rintro r w1 ⟨rfl, rfl⟩
      go_wp2
      go_ret
      exact ⟨by rw [E.out]; rfl, HB.out⟩
    · have hd : decide (60 < (l.length : Int)) = false := decide_eq_false (by omega)
      by_cases h0 : l.length = 0
      · have hz : l = [] := List.length_eq_zero_iff.1 h0
        subst hz
        have E : Ho (rightB n [] e = (!n && e == 0)) := ⟨by unfold rightB; rw [h1]; rfl⟩
        rw [E.out]
        simp only [List.length_nil] at NR HB ⊢
        clear h1 h h2 h0 E hd
        generalize rightB n [] e = q at *
        cases n
        · by_cases he : e = 0
          · subst he
            go_enter Tryd.func17, Tryd.ntmps17
            go_wp2_with fail
            (with_reducible refine (NR.out _ HB.out).mono ?_); rintro r w1 ⟨rfl, rfl⟩
            go_wp2
            go_ret
            exact ⟨rfl, HB.out⟩
          · have heb : (e == 0) = false := beq_eq_false_iff_ne.mpr he
            clear he
            go_enter Tryd.func17, Tryd.ntmps17
            go_wp2_with fail
            (with_reducible refine (NR.out _ HB.out).mono ?_); rintro r w1 ⟨rfl, rfl⟩
            go_wp2
            go_ret
            exact ⟨by rw [heb]; rfl, HB.out⟩
        · go_enter Tryd.func17, Tryd.ntmps17
          go_wp2_with fail
          (with_reducible refine (NR.out _ HB.out).mono ?_); rintro r w1 ⟨rfl, rfl⟩
          go_wp2
          go_ret
          exact ⟨rfl, HB.out⟩
      · obtain ⟨x0, x1⟩ := ((natB_iff l).1 h1).1.1.nth 0
        have E : Ho (rightB n l e = ((nth l 0 % 2 == 1) && decide (-6000 ≤ e) && decide (e ≤ 6000))) := ⟨by unfold rightB; rw [h1, decide_eq_true h2, if_neg h0]; rfl⟩
        rw [E.out]
        have hl0 : 0 < (l.length : Int) := by omega
        have hlb : ((l.length : Int) == 0) = false := beq_eq_false_iff_ne.mpr (by omega)
        obtain ⟨ad, rfl, y0⟩ := (h.bel HB.out).cell 0 (by omega)
        have y1 := y0
        rw [show ad.add 0 = ad from by unfold Addr.add; simp] at y1
        generalize rightB n l e = q at *
        clear h1 h E h0
        generalize nth l 0 = z at *
        cases hz : (z % 2 == 1) with
        | false =>
          go_enter Tryd.func17, Tryd.ntmps17
          go_wp2_with fail
          (with_reducible refine (NR.out _ HB.out).mono ?_); rintro r w1 ⟨rfl, rfl⟩
          go_wp2
          go_ret
          exact ⟨rfl, HB.out⟩
        | true =>
          rcases Int.lt_or_le e (-6000) with he | he
          · have hg : decide (-6000 ≤ e) = false := decide_eq_false (by omega)
            rw [hg]
            go_enter Tryd.func17, Tryd.ntmps17
            go_wp2_with fail
            (with_reducible refine (NR.out _ HB.out).mono ?_); rintro r w1 ⟨rfl, rfl⟩
            go_wp2
            go_ret
            exact ⟨rfl, HB.out⟩
          · have hg : decide (-6000 ≤ e) = true := decide_eq_true he
            rcases Int.lt_or_le 6000 e with he' | he'
            · have hg2 : decide (e ≤ 6000) = false := decide_eq_false (by omega)
              rw [hg2]
              go_enter Tryd.func17, Tryd.ntmps17
              go_wp2_with fail
              (with_reducible refine (NR.out _ HB.out).mono ?_); rintro r w1 ⟨rfl, rfl⟩
              go_wp2
              go_ret
              exact ⟨by simp, HB.out⟩
            · have hg2 : decide (e ≤ 6000) = true := decide_eq_true he'
              rw [hg, hg2]
              go_enter Tryd.func17, Tryd.ntmps17
              go_wp2_with fail
              (with_reducible refine (NR.out _ HB.out).mono ?_); rintro r w1 ⟨rfl, rfl⟩
              go_wp2
              go_ret
              exact ⟨rfl, HB.out⟩
theorem zeroL_calls (A : Option Addr) (c : Nat) (l : List Int) (n : Bool) (e : Int) (w : World) (hl : 0 < l.length) :
    Calls Tryd.prog 51 #[.agg #[.bool n, .slice A l.length c, .int .i64 e]] w fun e w' => e = .returned (.bool false) ∧ Bel w w' := by
  have hb : ((l.length : Int) == 0) = false := beq_eq_false_iff_ne.mpr (by omega)
  clear hl
  go_enter Tryd.func51, Tryd.ntmps51
  go_wp2
  go_ret
  exact ⟨rfl, (Bel.refl w).alloc _⟩
set_option maxRecDepth 100000 in
set_option maxHeartbeats 1000000 in
theorem right_calls (A : Option Addr) (c : Nat) (n : Bool) (l : List Int) (e : Int) (w : World) (h : Rd w A l) :
    Calls Tryd.prog 16 #[.agg #[.bool n, .slice A l.length c, .int .i64 e]] w fun r w' => r = .returned (.bool (rightB n l e)) ∧ Bel w w' := by
  have NR := Ho.mk (fun (W : World) (g : Bel w W) => N7.right_calls A c l W (h.bel g))
  have HB := Ho.mk ((Bel.refl w).alloc (.cells #[.bool n, .slice A l.length c, .int .i64 e] 24))
  cases h1 : natB l with
  | false =>
    have E : Ho (rightB n l e = false) := ⟨by unfold rightB; rw [h1]; rfl⟩
    rw [h1] at NR
    clear h1 h
    go_enter Tryd.func16, Tryd.ntmps16
    go_wp2_with fail
    (with_reducible refine (NR.out _ HB.out).mono ?_); rintro r w1 ⟨rfl, rfl⟩
    go_wp2
    go_ret
    exact ⟨by rw [E.out]; rfl, HB.out⟩
  | true =>
    rw [h1] at NR
    rcases Nat.lt_or_ge 60 l.length with h2 | h2
    · have E : Ho (rightB n l e = false) := ⟨by unfold rightB; rw [h1, decide_eq_false (by omega)]; rfl⟩
      have hd : decide (60 < (l.length : Int)) = true := decide_eq_true (by omega)
      clear h1 h h2
      go_enter Tryd.func16, Tryd.ntmps16
      go_wp2_with fail
      (with_reducible refine (NR.out _ HB.out).mono ?_); rintro r w1 ⟨rfl, rfl⟩
      go_wp2
      go_ret
      exact ⟨by rw [E.out]; rfl, HB.out⟩
    · have hd : decide (60 < (l.length : Int)) = false := decide_eq_false (by omega)
      by_cases h0 : l.length = 0
      · have hz : l = [] := List.length_eq_zero_iff.1 h0
        subst hz
        have E : Ho (rightB n [] e = (!n && e == 0)) := ⟨by unfold rightB; rw [h1]; rfl⟩
        rw [E.out]
        simp only [List.length_nil] at NR HB ⊢
        clear h1 h h2 h0 E hd
        have KB := Ho.mk (Blk.new (w.alloc (.cells #[.bool n, .slice A 0 c, .int .i64 e] 24)) [.bool n, .slice A 0 c, .int .i64 e] 58)
        rw [World.size_alloc] at KB
        generalize rightB n [] e = q at *
        cases n
        · by_cases he : e = 0
          · subst he
            go_enter Tryd.func16, Tryd.ntmps16
            go_wp2_with fail
            (with_reducible refine (NR.out _ HB.out).mono ?_); rintro r w1 ⟨rfl, rfl⟩
            go_wp2_with fail
            (with_reducible refine (zeroT_calls _ _ _ _ _).mono ?_); rintro r w1 ⟨rfl, hb1⟩
            have HB1 := Ho.mk ((HB.out.alloc _).trans hb1)
            have KB1 := Ho.mk (KB.out.bel hb1)
            have y0 := KB1.out.cell (i := 0) rfl
            have y1 := KB1.out.cell (i := 1) rfl
            have y2 := KB1.out.cell (i := 2) rfl
            clear hb1
            go_wp2
            go_ret
            exact ⟨rfl, HB1.out⟩
          · have heb : (e == 0) = false := beq_eq_false_iff_ne.mpr he
            clear he
            go_enter Tryd.func16, Tryd.ntmps16
            go_wp2_with fail
            (with_reducible refine (NR.out _ HB.out).mono ?_); rintro r w1 ⟨rfl, rfl⟩
            go_wp2_with fail
            (with_reducible refine (zeroT_calls _ _ _ _ _).mono ?_); rintro r w1 ⟨rfl, hb1⟩
            have HB1 := Ho.mk ((HB.out.alloc _).trans hb1)
            have KB1 := Ho.mk (KB.out.bel hb1)
            have y0 := KB1.out.cell (i := 0) rfl
            have y1 := KB1.out.cell (i := 1) rfl
            have y2 := KB1.out.cell (i := 2) rfl
            clear hb1
            go_wp2
            go_ret
            exact ⟨by rw [heb]; rfl, HB1.out⟩
        · go_enter Tryd.func16, Tryd.ntmps16
          go_wp2_with fail
          (with_reducible refine (NR.out _ HB.out).mono ?_); rintro r w1 ⟨rfl, rfl⟩
          go_wp2_with fail
          (with_reducible refine (zeroT_calls _ _ _ _ _).mono ?_); rintro r w1 ⟨rfl, hb1⟩
          have HB1 := Ho.mk ((HB.out.alloc _).trans hb1)
          have KB1 := Ho.mk (KB.out.bel hb1)
          have y0 := KB1.out.cell (i := 0) rfl
          have y1 := KB1.out.cell (i := 1) rfl
          have y2 := KB1.out.cell (i := 2) rfl
          clear hb1
          go_wp2
          go_ret
          exact ⟨rfl, HB1.out⟩
      · obtain ⟨x0, x1⟩ := ((natB_iff l).1 h1).1.1.nth 0
        have E : Ho (rightB n l e = ((nth l 0 % 2 == 1) && decide (-6000 ≤ e) && decide (e ≤ 6000))) := ⟨by unfold rightB; rw [h1, decide_eq_true h2, if_neg h0]; rfl⟩
        rw [E.out]
        have hl0 : 0 < (l.length : Int) := by omega
        have hlb : ((l.length : Int) == 0) = false := beq_eq_false_iff_ne.mpr (by omega)
        obtain ⟨ad, rfl, y0⟩ := (h.bel HB.out).cell 0 (by omega)
        have Y0 := Ho.mk y0
        have KA := Ho.mk ((Blk.new w [.bool n, .slice (some ad) l.length c, .int .i64 e] 24).old (.cells #[.bool n, .slice (some ad) l.length c, .int .i64 e] 58))
        have ZF := Ho.mk (fun (W : World) => zeroL_calls (some ad) c l n e W (by omega))
        have hband : bits .and .i64 (nth l 0) 1 = nth l 0 % 2 := i64_mask _ 1 (by decide)
        clear y0
        generalize rightB n l e = q at *
        clear h1 h E h0
        generalize nth l 0 = z at *
        cases hz : (z % 2 == 1) with
        | false =>
          go_enter Tryd.func16, Tryd.ntmps16
          go_wp2_with fail
          (with_reducible refine (NR.out _ HB.out).mono ?_); rintro r w1 ⟨rfl, rfl⟩
          go_wp2_with fail
          (with_reducible refine (ZF.out _).mono ?_); rintro r w1 ⟨rfl, hb1⟩
          have HB1 := Ho.mk ((HB.out.alloc _).trans hb1)
          have KA1 := Ho.mk ((KA.out.bel hb1))
          have y0 := KA1.out.cell (i := 0) rfl
          have y1 := KA1.out.cell (i := 1) rfl
          have y2 := KA1.out.cell (i := 2) rfl
          have y3 := (((Bel.refl _).alloc _).trans hb1).cell Y0.out
          have y4 := y3
          rw [show ad.add 0 = ad from by unfold Addr.add; simp] at y4
          clear hb1
          go_wp2
          go_ret
          exact ⟨rfl, HB1.out⟩
        | true =>
          rcases Int.lt_or_le e (-6000) with he | he
          · have hg : decide (-6000 ≤ e) = false := decide_eq_false (by omega)
            rw [hg]
            go_enter Tryd.func16, Tryd.ntmps16
            go_wp2_with fail
            (with_reducible refine (NR.out _ HB.out).mono ?_); rintro r w1 ⟨rfl, rfl⟩
            go_wp2_with fail
            (with_reducible refine (ZF.out _).mono ?_); rintro r w1 ⟨rfl, hb1⟩
            have HB1 := Ho.mk ((HB.out.alloc _).trans hb1)
            have KA1 := Ho.mk ((KA.out.bel hb1))
            have y0 := KA1.out.cell (i := 0) rfl
            have y1 := KA1.out.cell (i := 1) rfl
            have y2 := KA1.out.cell (i := 2) rfl
            have y3 := (((Bel.refl _).alloc _).trans hb1).cell Y0.out
            have y4 := y3
            rw [show ad.add 0 = ad from by unfold Addr.add; simp] at y4
            clear hb1
            go_wp2
            go_ret
            exact ⟨rfl, HB1.out⟩
          · have hg : decide (-6000 ≤ e) = true := decide_eq_true he
            rcases Int.lt_or_le 6000 e with he' | he'
            · have hg2 : decide (e ≤ 6000) = false := decide_eq_false (by omega)
              rw [hg2]
              go_enter Tryd.func16, Tryd.ntmps16
              go_wp2_with fail
              (with_reducible refine (NR.out _ HB.out).mono ?_); rintro r w1 ⟨rfl, rfl⟩
              go_wp2_with fail
              (with_reducible refine (ZF.out _).mono ?_); rintro r w1 ⟨rfl, hb1⟩
              have HB1 := Ho.mk ((HB.out.alloc _).trans hb1)
              have KA1 := Ho.mk ((KA.out.bel hb1))
              have y0 := KA1.out.cell (i := 0) rfl
              have y1 := KA1.out.cell (i := 1) rfl
              have y2 := KA1.out.cell (i := 2) rfl
              have y3 := (((Bel.refl _).alloc _).trans hb1).cell Y0.out
              have y4 := y3
              rw [show ad.add 0 = ad from by unfold Addr.add; simp] at y4
              clear hb1
              go_wp2
              go_ret
              exact ⟨by simp, HB1.out⟩
            · have hg2 : decide (e ≤ 6000) = true := decide_eq_true he'
              rw [hg, hg2]
              go_enter Tryd.func16, Tryd.ntmps16
              go_wp2_with fail
              (with_reducible refine (NR.out _ HB.out).mono ?_); rintro r w1 ⟨rfl, rfl⟩
              go_wp2_with fail
              (with_reducible refine (ZF.out _).mono ?_); rintro r w1 ⟨rfl, hb1⟩
              have HB1 := Ho.mk ((HB.out.alloc _).trans hb1)
              have KA1 := Ho.mk ((KA.out.bel hb1))
              have y0 := KA1.out.cell (i := 0) rfl
              have y1 := KA1.out.cell (i := 1) rfl
              have y2 := KA1.out.cell (i := 2) rfl
              have y3 := (((Bel.refl _).alloc _).trans hb1).cell Y0.out
              have y4 := y3
              rw [show ad.add 0 = ad from by unfold Addr.add; simp] at y4
              clear hb1
              go_wp2
              go_ret
              exact ⟨rfl, HB1.out⟩
end Go.Proofs.YtnmjnjhijcnbcaaDoor.E7
