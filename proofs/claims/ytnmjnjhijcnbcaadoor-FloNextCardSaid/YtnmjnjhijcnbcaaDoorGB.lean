/-
  Joined texts: G5, G6, G7, G8, G9.
-/
import Derived.Test.YtnmjnjhijcnbcaaDoorGA
import Derived.Deep.RegionHeld3
import Derived.Test.YtnmjnjhijcnbcaaDoorNd
import Derived.Test.YtnmjnjhijcnbcaaDoorF4
import Derived.BigQuiet
import Derived.Test.YtnmjnjhijcnbcaaDoorF0
set_option linter.unusedVariables false
set_option linter.unusedSimpArgs false
/-
  The walks of Of, program's and reference's.
-/
namespace Go.Proofs.YtnmjnjhijcnbcaaDoor.G5
open Ieee Go Go.RowKit Go.Proofs.YtnmjnjhijcnbcaaDoor Go.Proofs.YtnmjnjhijcnbcaaDoor.Ow Go.Proofs.YtnmjnjhijcnbcaaDoor.Pl Go.Proofs.YtnmjnjhijcnbcaaDoor.Dp Go.Proofs.YtnmjnjhijcnbcaaDoor.Dt Go.Proofs.YtnmjnjhijcnbcaaDoor.Gp Go.Proofs.YtnmjnjhijcnbcaaDoor.Gq Go.Proofs.YtnmjnjhijcnbcaaDoor.G1 Go.Proofs.YtnmjnjhijcnbcaaDoor.G2 Go.Proofs.YtnmjnjhijcnbcaaDoor.G3 Go.Proofs.YtnmjnjhijcnbcaaDoor.G4 Go.Proofs.YtnmjnjhijcnbcaaDoor.F1

/-- A number is handed back, and whether there is one. -/
def MakesF (w : World) (v : Int) (ok : Bool) (L U : Nat) (e : Ending) (w' : World) : Prop :=
  ∃ A c, e = .returned (.tuple #[.agg #[.bool (dneg v), .slice A (digs (dm v)).length c, .int .i64 (de v)], .bool ok]) ∧ Dv w' A c v L U ∧ Bel w w'
theorem e_frung {b : Nat} (hb : b < 2 * sgnW) : b / bn % 2048 = frung b / bn ∧ b % bn = frung b % bn := by
  have e : sgnW = bn * 2048 := by decide
  unfold frung
  rw [e]
  refine ⟨?_, ?_⟩
  · rw [Nat.mod_mul_right_div_self]
  · rw [Nat.mod_mul_right_mod]
theorem w1_top {b : Nat} (hb : b < 2 * sgnW) : (w1 b = 2047 ↔ ¬ frung b < infR) := by
  unfold w1
  rw [(e_frung hb).1]
  have h : frung b < sgnW := Nat.mod_lt _ (by decide)
  have e : sgnW = 2048 * bn := by decide
  have e2 : infR = 2047 * bn := by decide
  have h2 : frung b / bn < 2048 := Nat.div_lt_of_lt_mul (by rw [Nat.mul_comm, ← e]; exact h)
  have h3 : frung b / bn < 2047 ↔ frung b < 2047 * bn := Nat.div_lt_iff_lt_mul (by decide)
  rw [e2, ← h3]
  generalize frung b / bn = z at *
  omega
theorem w1_zero {b : Nat} (hb : b < 2 * sgnW) : (w1 b = 0 ↔ frung b < bn) := by
  unfold w1
  rw [(e_frung hb).1]
  have h3 : frung b / bn < 1 ↔ frung b < 1 * bn := Nat.div_lt_iff_lt_mul (by decide)
  rw [Nat.one_mul] at h3
  rw [← h3]
  generalize frung b / bn = z at *
  omega
/-- What the program takes apart is the float's number. -/
theorem parts_low {b : Nat} (hb : b < 2 * sgnW) (h : w1 b = 0) : (w2 b).toNat = sig (frung b) ∧ (1 : Int) - 1075 = (plc (frung b) : Int) - 1074 := by
  have hl := (w1_zero hb).1 h
  unfold w2 sig plc
  rw [(e_frung hb).2, if_pos hl, Nat.mod_eq_of_lt hl, Nat.div_eq_of_lt hl]
  exact ⟨rfl, rfl⟩
theorem parts_high {b : Nat} (hb : b < 2 * sgnW) (h : w1 b ≠ 0) : (w2 b + 4503599627370496).toNat = sig (frung b) ∧ w1 b - 1075 = (plc (frung b) : Int) - 1074 := by
  have hl := fun q => h ((w1_zero hb).2 q)
  have hl2 : 1 ≤ frung b / bn := (Nat.le_div_iff_mul_le (by decide)).2 (by rw [Nat.one_mul]; exact Nat.not_lt.1 hl)
  unfold w2 sig plc w1
  rw [(e_frung hb).2, (e_frung hb).1, if_neg hl]
  rw [show (4503599627370496 : Int) = ((bn : Nat) : Int) from rfl]
  generalize frung b / bn = z at *
  generalize frung b % bn = y at *
  exact ⟨by omega, by omega⟩
theorem sign_bit {b : Nat} (hb : b < 2 * sgnW) : (w0 b == 1) = fneg b := by
  unfold w0 fneg
  by_cases h1 : sgnW ≤ b
  · have : b / sgnW = 1 := by apply Nat.div_eq_of_lt_le <;> omega
    rw [this, decide_eq_true h1]; rfl
  · rw [Nat.div_eq_of_lt (by omega), decide_eq_false h1]; rfl
theorem sig_lt (b : Nat) : sig (frung b) < 2 ^ 53 := (rung_split (frung b)).2.1
theorem plc_le {b : Nat} (h : frung b < infR) : plc (frung b) ≤ 2045 := by
  have e2 : infR = 2047 * bn := by decide
  have h3 : frung b / bn < 2047 := (Nat.div_lt_iff_lt_mul (by decide)).2 (by rw [← e2]; exact h)
  unfold plc; omega

theorem res3b {fn : Func} {p q : Tmp} {tmps : Array Value} {w : World} {b : Nat} {v0 v1 v2 : Value} {ok : Bool} (hf : fn.results = #[.cell p 24, .tmp q]) (hp : tmps.getD p undef = .pointer (some ⟨b, 0, none⟩)) (hq : tmps.getD q undef = .bool ok)
    (h : Blk w b 24 [v0, v1, v2]) : (results fn tmps).run Tryd.prog w = .ok (.tuple #[.agg #[v0, v1, v2], .bool ok]) w := by
  have y0 := h.cell (i := 0) rfl
  have y1 := h.cell (i := 1) rfl
  have y2 := h.cell (i := 2) rfl
  have hp2 := hp
  rw [Array.getD_eq_getD_getElem?] at hp2
  have hq2 := hq
  rw [Array.getD_eq_getD_getElem?] at hq2
  simp [results, hf, hp2, hq2, go_sem, y0, y1, y2]
theorem givesF_end {fn : Func} {p q : Tmp} {tmps : Array Value} {w w2 : World} {v : Int} {ok : Bool} {b c2 L U : Nat} {A2 : Option Addr} (hf : fn.results = #[.cell p 24, .tmp q]) (hp : tmps.getD p undef = .pointer (some ⟨b, 0, none⟩)) (hq : tmps.getD q undef = .bool ok)
    (hB : Bel w w2) (hb : w.heap.size ≤ b) (KB : Blk w2 b 24 [.bool false, .slice none 0 0, .int .i64 0]) (D : Dv w2 A2 c2 v L U) :
    bodyPost Tryd.prog fn (MakesF w v ok L U) .ret { tmps := tmps, defers := [] }
      (((w2.setCell ⟨b, 0, none⟩ (.bool (dneg v))).setCell ⟨b, 1, none⟩ (.slice A2 (digs (dm v)).length c2)).setCell ⟨b, 2, none⟩ (.int .i64 (de v))) := by
  have KF := ((KB.set 0 (.bool (dneg v))).set 1 (.slice A2 (digs (dm v)).length c2)).set 2 (.int .i64 (de v))
  have BF := ((hB.out.setCell (p := ⟨b, 0, none⟩) hb (.bool (dneg v))).setCell (p := ⟨b, 1, none⟩) hb (.slice A2 (digs (dm v)).length c2)).setCell (p := ⟨b, 2, none⟩) hb (.int .i64 (de v))
  have RF : Rd (((w2.setCell ⟨b, 0, none⟩ (.bool (dneg v))).setCell ⟨b, 1, none⟩ (.slice A2 (digs (dm v)).length c2)).setCell ⟨b, 2, none⟩ (.int .i64 (de v))) A2 (digs (dm v)) := by
    by_cases h0 : dm v = 0
    · rw [h0, digs_zero]; exact Rd.nil _ _
    · exact D2.rd_set3 D.rd (fun ad2 he => by subst he; exact D2.rd_far KB (fun z => by simp) D.rd h0) _ _ _
  exact bodyPost_ret (v := .tuple #[.agg #[.bool (dneg v), .slice A2 (digs (dm v)).length c2, .int .i64 (de v)], .bool ok]) (res3b hf hp hq KF) rfl ⟨A2, c2, rfl, ⟨D.cap, RF, D.wd⟩, ⟨BF⟩⟩

theorem of_no_calls {b : Nat} (hb : b < 2 * sgnW) (h : ¬ frung b < infR) (w : World) : Calls Tryd.prog 40 #[.float .f64 b] w (MakesF w 0 false 1074 1024) := by
  have SB := Ho.mk (split_calls hb)
  have e := (w1_top hb).2 h
  clear hb h
  generalize w0 b = x0 at *
  generalize w1 b = x1 at *
  generalize w2 b = x2 at *
  subst e
  have KB := Ho.mk (Blk.new w [.bool false, .slice none 0 0, .int .i64 0] 24)
  have HB := Ho.mk ((Bel.refl w).alloc (.cells #[.bool false, .slice none 0 0, .int .i64 0] 24))
  go_enter Tryd.func40, Tryd.ntmps40
  go_wp2_with fail
  (with_reducible refine (SB.out _).mono ?_); rintro _ wa ⟨rfl, ha⟩
  have KB2 := Ho.mk (KB.out.bel ha)
  have HB2 := Ho.mk (HB.out.trans ha)
  have hsz := ha.size
  rw [World.size_alloc] at hsz
  have y0 := fun o => (KB2.out.bel ((Bel.refl wa).alloc o)).cell (i := 0) rfl
  have y1 := fun o => (KB2.out.bel ((Bel.refl wa).alloc o)).cell (i := 1) rfl
  have y2 := fun o => (KB2.out.bel ((Bel.refl wa).alloc o)).cell (i := 2) rfl
  have z0 := fun o => (KB2.out.bel ((Bel.refl wa).alloc o)).free 0
  have z1 := fun o => (KB2.out.bel ((Bel.refl wa).alloc o)).free 1
  have z2 := fun o => (KB2.out.bel ((Bel.refl wa).alloc o)).free 2
  clear ha
  go_wp2
  have D0 := Dv.zero (wa.alloc (.cells #[.int .i64 x0, .int .i64 2047, .int .i64 x2] 76)) 0
  have key := fun (tmps : Array Value) (hp : tmps.getD 2 undef = .pointer (some ⟨w.heap.size, 0, none⟩)) (hq : tmps.getD 3 undef = .bool false) =>
    givesF_end (fn := Tryd.f40) (ok := false) rfl hp hq (HB2.out.alloc (.cells #[.int .i64 x0, .int .i64 2047, .int .i64 x2] 76)) (Nat.le_refl _) (KB2.out.bel ((Bel.refl wa).alloc (.cells #[.int .i64 x0, .int .i64 2047, .int .i64 x2] 76))) (D0.mono (L' := 1074) (U' := 1024) (by omega) (by omega))
  rw [show (digs (dm 0)).length = 0 by rw [show dm 0 = 0 from odd_zero, digs_zero]; rfl] at key
  exact key _ rfl rfl
theorem or_bn {b : Nat} : bits .or .i64 (w2 b) 4503599627370496 = w2 b + 4503599627370496 := by
  have hl : b % bn < 2 ^ 52 := Nat.mod_lt _ (by decide)
  unfold w2
  have := i64_or_nat (b % bn) 4503599627370496 (by omega) (by decide)
  rw [show ((4503599627370496 : Int)) = ((4503599627370496 : Nat) : Int) from rfl, this]
  have h2 := Nat.two_pow_add_eq_or_of_lt hl 1
  rw [Nat.mul_one] at h2
  rw [Nat.or_comm, show (4503599627370496 : Nat) = 2 ^ 52 from rfl, ← h2]
  omega
set_option maxRecDepth 100000 in
set_option maxHeartbeats 2000000 in
theorem of_yes_calls {b : Nat} (hb : b < 2 * sgnW) (h : frung b < infR) (w : World) (T : Tab w) : Calls Tryd.prog 40 #[.float .f64 b] w (MakesF w (fv b) true 1074 1024) := by
  have SB := Ho.mk (split_calls hb)
  have hs := sign_bit hb
  have hp := plc_le h
  have hsc := fv_sc b
  have e := (not_congr (w1_top hb)).2 (fun q => q h)
  have MK := Ho.mk (fun (A : Option Addr) (c : Nat) (W : World) (g : Bel w W) (d : Nv W A c (sig (frung b)) 53) => dMake (T.bel g) d (L := 1074) (U := 1024) (fneg b) ((plc (frung b) : Int) - 1074) (by omega) (by omega) (by omega) (by omega) (by omega))
  rw [hsc] at MK
  have hm := Ho.mk (sig_lt b)
  have OF := Ho.mk (fun (n : Int) (W : World) (hn : sig (frung b) = n.toNat) (h1 : n ≤ 9223372036854775807) => R2.natOf_calls n (sig (frung b)) W hn h1)
  have hw2 : 0 ≤ w2 b ∧ w2 b ≤ 4503599627370495 := by
    unfold w2
    have : b % bn < 4503599627370496 := Nat.mod_lt _ (by decide)
    omega
  clear hsc
  by_cases h0 : w1 b = 0
  · obtain ⟨p1, p2⟩ := parts_low hb h0
    clear hb h
    rw [← p2, show (1 : Int) - 1075 = -1074 from rfl] at MK
    rw [h0] at SB
    have OF2 := Ho.mk (fun W => OF.out (w2 b) W p1.symm (by omega))
    clear p1 p2 OF e h0 hw2 hp
    generalize fv b = v at *
    generalize w0 b = x0 at *
    generalize w2 b = x2 at *
    generalize fneg b = nb at *
    generalize sig (frung b) = m at *
    have KB := Ho.mk (Blk.new w [.bool false, .slice none 0 0, .int .i64 0] 24)
    have HB := Ho.mk ((Bel.refl w).alloc (.cells #[.bool false, .slice none 0 0, .int .i64 0] 24))
    go_enter Tryd.func40, Tryd.ntmps40
    go_wp2_with fail
    (with_reducible refine (SB.out _).mono ?_); rintro _ wa ⟨rfl, ha⟩
    have KB2 := Ho.mk (KB.out.bel ha)
    have HB2 := Ho.mk (HB.out.trans ha)
    have hsz := ha.size
    rw [World.size_alloc] at hsz
    clear ha
    go_wp2_with fail
    have KB3 := Ho.mk (KB2.out.bel ((Bel.refl wa).alloc (.cells #[.int .i64 x0, .int .i64 1, .int .i64 x2] 76)))
    have HB3 := Ho.mk (HB2.out.alloc (.cells #[.int .i64 x0, .int .i64 1, .int .i64 x2] 76))
    have nn : wa.heap.size ≠ w.heap.size := by omega
    have nn2 : ¬ (w.heap.size = wa.heap.size) := by omega
    go_region_held3 (fun w' => w'.cell? ⟨wa.heap.size, 0, none⟩ = some (.int .i64 x0) ∧ w'.cell? ⟨wa.heap.size, 1, none⟩ = some (.int .i64 1) ∧ w'.cell? ⟨wa.heap.size, 2, none⟩ = some (.int .i64 x2))
      (first
        | go_keep
        | (go_split_ands
           refine ⟨?_, ?_, ?_⟩ <;> (apply Bel.cell (by assumption); assumption))
        | (all_goals (go_split_ands; apply Bel.cell (by assumption); assumption))
        | (go_split_ands
           refine ⟨?_, ?_, ?_⟩ <;> (refine D4.cell_set3 ?_ (by assumption); exact nn))
        | (all_goals (go_split_ands; refine D4.cell_set3 ?_ (by assumption); exact nn)))
      (first
        | (go_at_call 65; refine (OF2.out _).mono ?_; rintro e w1 ⟨A3, c3, rfl, hc3, hr3, hb3⟩)
        | (go_at_call 36; refine (MK.out _ _ _ (HB3.out.trans ((Bel.refl _).drew.trans hb3)) ⟨hc3, hr3, hm.out⟩).mono ?_; rintro e w2 ⟨A4, c4, rfl, hd4, hb4⟩
           have KB4 := Ho.mk (KB3.out.bel ((Bel.refl _).drew.trans (hb3.trans hb4)))
           have HB4 := Ho.mk (HB3.out.trans ((Bel.refl _).drew.trans (hb3.trans hb4)))
           have y0 := KB4.out.cell (i := 0) rfl
           have y1 := KB4.out.cell (i := 1) rfl
           have y2 := KB4.out.cell (i := 2) rfl
           have z0 := KB4.out.free 0
           have z1 := KB4.out.free 1
           have z2 := KB4.out.free 2))
    have HD4 := Ho.mk hd4
    clear hd4 hr3 hb3 hb4
    go_wp2
    exact givesF_end (fn := Tryd.f40) (p := 2) (q := 3) rfl rfl rfl HB4.out (Nat.le_refl _) KB4.out HD4.out
  · obtain ⟨p1, p2⟩ := parts_high hb h0
    rw [← p2] at MK
    have OF2 := Ho.mk (fun W => OF.out (w2 b + 4503599627370496) W p1.symm (by omega))
    have ho := or_bn (b := b)
    have h1 : (w1 b == 0) = false := beq_eq_false_iff_ne.2 h0
    have h2 : (w1 b == 2047) = false := beq_eq_false_iff_ne.2 e
    have h3 : 0 ≤ w1 b ∧ w1 b ≤ 2047 := by unfold w1; omega
    obtain ⟨h30, h31⟩ := h3
    have q1 : IntKind.i64.wrap (w1 b - 1075) = w1 b - 1075 := IntWalk.i64_in _ (by omega)
    clear p1 p2 OF e h0 hp hb h
    generalize fv b = v at *
    generalize w0 b = x0 at *
    generalize w1 b = x1 at *
    obtain ⟨y, hy⟩ : ∃ y, w2 b + 4503599627370496 = y := ⟨_, rfl⟩
    rw [hy] at ho OF2
    clear hw2 hy
    generalize w2 b = x2 at *
    generalize fneg b = nb at *
    generalize sig (frung b) = m at *
    have KB := Ho.mk (Blk.new w [.bool false, .slice none 0 0, .int .i64 0] 24)
    have HB := Ho.mk ((Bel.refl w).alloc (.cells #[.bool false, .slice none 0 0, .int .i64 0] 24))
    go_enter Tryd.func40, Tryd.ntmps40
    go_wp2_with fail
    (with_reducible refine (SB.out _).mono ?_); rintro _ wa ⟨rfl, ha⟩
    have KB2 := Ho.mk (KB.out.bel ha)
    have HB2 := Ho.mk (HB.out.trans ha)
    have hsz := ha.size
    rw [World.size_alloc] at hsz
    clear ha
    go_wp2_with fail
    have KB3 := Ho.mk (KB2.out.bel ((Bel.refl wa).alloc (.cells #[.int .i64 x0, .int .i64 x1, .int .i64 y] 76)))
    have HB3 := Ho.mk (HB2.out.alloc (.cells #[.int .i64 x0, .int .i64 x1, .int .i64 y] 76))
    have nn : wa.heap.size ≠ w.heap.size := by omega
    have nn2 : ¬ (w.heap.size = wa.heap.size) := by omega
    go_region_held3 (fun w' => w'.cell? ⟨wa.heap.size, 0, none⟩ = some (.int .i64 x0) ∧ w'.cell? ⟨wa.heap.size, 1, none⟩ = some (.int .i64 x1) ∧ w'.cell? ⟨wa.heap.size, 2, none⟩ = some (.int .i64 y))
      (first
        | go_keep
        | (go_split_ands
           refine ⟨?_, ?_, ?_⟩ <;> (apply Bel.cell (by assumption); assumption))
        | (all_goals (go_split_ands; apply Bel.cell (by assumption); assumption))
        | (go_split_ands
           refine ⟨?_, ?_, ?_⟩ <;> (refine D4.cell_set3 ?_ (by assumption); exact nn))
        | (all_goals (go_split_ands; refine D4.cell_set3 ?_ (by assumption); exact nn)))
      (first
        | (go_at_call 65; refine (OF2.out _).mono ?_; rintro e w1 ⟨A3, c3, rfl, hc3, hr3, hb3⟩)
        | (go_at_call 36; refine (MK.out _ _ _ (HB3.out.trans ((Bel.refl _).drew.trans hb3)) ⟨hc3, hr3, hm.out⟩).mono ?_; rintro e w2 ⟨A4, c4, rfl, hd4, hb4⟩
           have KB4 := Ho.mk (KB3.out.bel ((Bel.refl _).drew.trans (hb3.trans hb4)))
           have HB4 := Ho.mk (HB3.out.trans ((Bel.refl _).drew.trans (hb3.trans hb4)))
           have y0 := KB4.out.cell (i := 0) rfl
           have y1 := KB4.out.cell (i := 1) rfl
           have y2 := KB4.out.cell (i := 2) rfl
           have z0 := KB4.out.free 0
           have z1 := KB4.out.free 1
           have z2 := KB4.out.free 2))
    have HD4 := Ho.mk hd4
    clear hd4 hr3 hb3 hb4
    go_wp2
    exact givesF_end (fn := Tryd.f40) (p := 2) (q := 3) rfl rfl rfl HB4.out (Nat.le_refl _) KB4.out HD4.out
theorem rof_no_calls {b : Nat} (hb : b < 2 * sgnW) (h : ¬ frung b < infR) (w : World) : Calls Tryd.prog 41 #[.float .f64 b] w (MakesF w 0 false 1074 1024) := by
  have e := (w1_top hb).2 h
  have rb := fun w => run_bits b w
  have d0 : (b : Int) / 9223372036854775808 = w0 b := rfl
  have d1 : bits .and .u64 ((b : Int) / 4503599627370496) 2047 = w1 b := and_2047 hb
  have d2 : bits .and .u64 (b : Int) 4503599627370495 = w2 b := and_frac hb
  have c0 : 0 ≤ w2 b := Int.natCast_nonneg _
  have c1 : w2 b ≤ 4503599627370495 := by
    unfold w2
    have : b % bn < 4503599627370496 := Nat.mod_lt _ (by decide)
    omega
  clear hb h
  generalize w0 b = x0 at *
  generalize w1 b = x1 at *
  generalize w2 b = x2 at *
  subst e
  have KB := Ho.mk (Blk.new w [.bool false, .slice none 0 0, .int .i64 0] 24)
  have HB := Ho.mk ((Bel.refl w).alloc (.cells #[.bool false, .slice none 0 0, .int .i64 0] 24))
  go_enter Tryd.func41, Tryd.ntmps41
  go_wp2
  refine bodyPost_ret (v := .tuple #[.agg #[.bool false, .slice none 0 0, .int .i64 0], .bool false]) (res3b (p := 2) (q := 3) rfl rfl rfl KB.out) rfl ⟨none, 0, ?_, (Dv.zero _ 0).mono (by omega) (by omega), HB.out⟩
  rw [show dm 0 = 0 from odd_zero, digs_zero]; rfl
set_option maxRecDepth 100000 in
theorem rof_yes_calls {b : Nat} (hb : b < 2 * sgnW) (h : frung b < infR) (w : World) : Calls Tryd.prog 41 #[.float .f64 b] w (MakesF w (fv b) true 1074 1024) := by
  have rb := fun w => run_bits b w
  have d0 : (b : Int) / 9223372036854775808 = w0 b := rfl
  have d1 : bits .and .u64 ((b : Int) / 4503599627370496) 2047 = w1 b := and_2047 hb
  have d2 : bits .and .u64 (b : Int) 4503599627370495 = w2 b := and_frac hb
  have c0 : 0 ≤ w2 b := Int.natCast_nonneg _
  have c1 : w2 b ≤ 4503599627370495 := by
    unfold w2
    have : b % bn < 4503599627370496 := Nat.mod_lt _ (by decide)
    omega
  have hs := sign_bit hb
  have hp := plc_le h
  have hsc := fv_sc b
  have e := (not_congr (w1_top hb)).2 (fun q => q h)
  have MK := Ho.mk (fun (A : Option Addr) (c : Nat) (W : World) (d : Nv W A c (sig (frung b)) 53) => rMake d (L := 1074) (U := 1024) (fneg b) ((plc (frung b) : Int) - 1074) (by omega) (by omega) (by omega) (by omega) (by omega))
  rw [hsc] at MK
  have hm := sig_lt b
  have OF := Ho.mk (fun (n : Int) (W : World) (hn : sig (frung b) = n.toNat) (h1 : n ≤ 9223372036854775807) => rNOf (w := W) n hn h1 hm)
  have h3 : 0 ≤ w1 b ∧ w1 b ≤ 2047 := by unfold w1; omega
  obtain ⟨h30, h31⟩ := h3
  have KB := Ho.mk (Blk.new w [.bool false, .slice none 0 0, .int .i64 0] 24)
  have HB := Ho.mk ((Bel.refl w).alloc (.cells #[.bool false, .slice none 0 0, .int .i64 0] 24))
  clear hsc hm
  by_cases h0 : w1 b = 0
  · obtain ⟨p1, p2⟩ := parts_low hb h0
    clear hb h
    rw [← p2, show (1 : Int) - 1075 = -1074 from rfl] at MK
    rw [h0] at d1
    have OF2 := Ho.mk (fun W => OF.out (w2 b) W p1.symm (by omega))
    clear p1 p2 OF e h0 hp h30 h31
    generalize fv b = v at *
    generalize w0 b = x0 at *
    generalize w2 b = x2 at *
    generalize fneg b = nb at *
    generalize sig (frung b) = m at *
    go_enter Tryd.func41, Tryd.ntmps41
    go_wp2_with fail
    (with_reducible refine (OF2.out _).mono ?_); rintro _ w3 ⟨A3, c3, rfl, hn3, hb3⟩
    go_wp2_with fail
    (with_reducible refine (MK.out _ _ _ hn3).mono ?_); rintro _ w4 ⟨A4, c4, rfl, hd4, hb4⟩
    have KB4 := Ho.mk (KB.out.bel (hb3.trans hb4))
    have HB4 := Ho.mk (HB.out.trans (hb3.trans hb4))
    have y0 := KB4.out.cell (i := 0) rfl
    have y1 := KB4.out.cell (i := 1) rfl
    have y2 := KB4.out.cell (i := 2) rfl
    have z0 := KB4.out.free 0
    have z1 := KB4.out.free 1
    have z2 := KB4.out.free 2
    have HD4 := Ho.mk hd4
    clear hd4 hn3 hb3 hb4
    go_wp2
    exact givesF_end (fn := Tryd.f41) (p := 2) (q := 3) rfl rfl rfl HB4.out (Nat.le_refl _) KB4.out HD4.out
  · obtain ⟨p1, p2⟩ := parts_high hb h0
    rw [← p2] at MK
    have OF2 := Ho.mk (fun W => OF.out (w2 b + 4503599627370496) W p1.symm (by omega))
    have h1 : (w1 b == 0) = false := beq_eq_false_iff_ne.2 h0
    have h2 : (w1 b == 2047) = false := beq_eq_false_iff_ne.2 e
    have q1 : IntKind.i64.wrap (w1 b - 1075) = w1 b - 1075 := IntWalk.i64_in _ (by omega)
    clear p1 p2 OF e h0 hp hb h
    generalize fv b = v at *
    generalize w0 b = x0 at *
    generalize w1 b = x1 at *
    generalize w2 b = x2 at *
    generalize fneg b = nb at *
    generalize sig (frung b) = m at *
    go_enter Tryd.func41, Tryd.ntmps41
    go_wp2_with fail
    (with_reducible refine (OF2.out _).mono ?_); rintro _ w3 ⟨A3, c3, rfl, hn3, hb3⟩
    go_wp2_with fail
    (with_reducible refine (MK.out _ _ _ hn3).mono ?_); rintro _ w4 ⟨A4, c4, rfl, hd4, hb4⟩
    have KB4 := Ho.mk (KB.out.bel (hb3.trans hb4))
    have HB4 := Ho.mk (HB.out.trans (hb3.trans hb4))
    have y0 := KB4.out.cell (i := 0) rfl
    have y1 := KB4.out.cell (i := 1) rfl
    have y2 := KB4.out.cell (i := 2) rfl
    have z0 := KB4.out.free 0
    have z1 := KB4.out.free 1
    have z2 := KB4.out.free 2
    have HD4 := Ho.mk hd4
    clear hd4 hn3 hb3 hb4
    go_wp2
    exact givesF_end (fn := Tryd.f41) (p := 2) (q := 3) rfl rfl rfl HB4.out (Nat.le_refl _) KB4.out HD4.out
end Go.Proofs.YtnmjnjhijcnbcaaDoor.G5

/-
  The walk of nearest: a natural over a power of two, to the nearest.
-/
namespace Go.Proofs.YtnmjnjhijcnbcaaDoor.G6
open Ieee Go Go.RowKit Go.Proofs.YtnmjnjhijcnbcaaDoor Go.Proofs.YtnmjnjhijcnbcaaDoor.Ow Go.Proofs.YtnmjnjhijcnbcaaDoor.Pl Go.Proofs.YtnmjnjhijcnbcaaDoor.Dp Go.Proofs.YtnmjnjhijcnbcaaDoor.Gp Go.Proofs.YtnmjnjhijcnbcaaDoor.G1 Go.Proofs.YtnmjnjhijcnbcaaDoor.G2 Go.Proofs.YtnmjnjhijcnbcaaDoor.F1

/-- A natural's row is handed back. -/
def Row (w : World) (x : Nat) (e : Ending) (w' : World) : Prop :=
  ∃ A c, e = .returned (.slice A (digs x).length c) ∧ (digs x).length ≤ c ∧ Rd w' A (digs x) ∧ Bel w w'
theorem blen53 {y : Nat} (h : y ≤ 2 * bn) : blen y ≤ 62 := blen_le.2 (Nat.lt_of_le_of_lt h (by decide))
theorem and_1 {W : Nat} (h : W ≤ 2 * bn) : bits .and .i64 (W : Int) 1 = ((W % 2 : Nat) : Int) := by
  have := i64_and_nat W 1 (Nat.lt_of_le_of_lt h (by decide)) (by decide)
  rw [show (1 : Nat) = 2 ^ 1 - 1 from rfl, mask_mod] at this
  exact this
theorem rhe_parts {x k W r : Nat} (hk : 1 ≤ k) (hW : W = x / 2 ^ k) (hr : r = x - W * 2 ^ k) : W * 2 ^ k ≤ x ∧
    (cmpI (r : Int) ((2 ^ (k - 1) : Nat) : Int) = -1 → rhe x k = W) ∧ (cmpI (r : Int) ((2 ^ (k - 1) : Nat) : Int) = 0 → rhe x k = W + W % 2) ∧ (cmpI (r : Int) ((2 ^ (k - 1) : Nat) : Int) = 1 → rhe x k = W + 1) := by
  have h1 := Nat.div_add_mod x (2 ^ k)
  rw [← hW, Nat.mul_comm] at h1
  have h2 : x % 2 ^ k = r := by omega
  have h3 : 2 ^ k = 2 * 2 ^ (k - 1) := by rw [← Nat.pow_succ']; congr 1; omega
  generalize W * 2 ^ k = q at *
  unfold rhe cmpI
  rw [← hW, h2, h3]
  clear hW h3 hk
  generalize 2 ^ (k - 1) = z at *
  rcases Nat.lt_trichotomy r z with q1 | q1 | q1
  · rw [if_pos (show (r : Int) < (z : Int) by omega)]
    refine ⟨by omega, fun _ => ?_, fun h => absurd h (by decide), fun h => absurd h (by decide)⟩
    rw [if_neg (by omega), if_neg (by omega)]; rfl
  · rw [if_neg (show ¬ (r : Int) < (z : Int) by omega), if_neg (show ¬ (z : Int) < (r : Int) by omega)]
    refine ⟨by omega, fun h => absurd h (by decide), fun _ => ?_, fun h => absurd h (by decide)⟩
    rw [if_neg (by omega), if_pos (by omega)]
  · rw [if_neg (show ¬ (r : Int) < (z : Int) by omega), if_pos (show (z : Int) < (r : Int) by omega)]
    refine ⟨by omega, fun h => absurd h (by decide), fun h => absurd h (by decide), fun _ => ?_⟩
    rw [if_pos (by omega)]
section
variable {A : Option Addr} {c x : Nat} {k : Int} {w : World}
theorem nearUp_calls {n kn : Nat} (h : Rd w A (digs x)) (hc : (digs x).length ≤ c) (hx : (digs x).length ≤ 1000) (hk : k ≤ 0) (hkn : kn = (-k).toNat) (hk0 : -20000 ≤ k) (hn : n = x * 2 ^ kn) (hb : n ≤ 2 * bn) :
    Calls Tryd.prog 79 #[.slice A (digs x).length c, .int .i64 k] w (Tells w (.float .f64 (floatOfInt .f64 (n : Int)))) := by
  have SL := Ho.mk (N9.shl_calls A c x kn (-k) w h hc (by omega) hkn (by omega))
  rw [← hn] at SL
  have IN := Ho.mk (fun (A : Option Addr) (c : Nat) (W : World) (g : Rd W A (digs n)) => Nd.intYes_calls A c n W g (blen53 hb))
  clear hn hb h hc hx hkn
  generalize digs x = l0 at *
  generalize digs n = l1 at *
  generalize (n : Int) = ni at *
  go_enter Tryd.func79, Tryd.ntmps79
  go_wp2_with fail
  (with_reducible refine SL.out.mono ?_); rintro _ w1 ⟨A1, c1, rfl, hc1, hr1, hb1⟩
  go_wp2_with fail
  (with_reducible refine (IN.out _ _ _ hr1).mono ?_); rintro _ w2 ⟨rfl, hb2⟩
  have HB := Ho.mk (hb1.trans hb2)
  clear hr1 hb1 hb2
  go_wp2
  go_ret
  exact ⟨rfl, HB.out⟩
set_option maxHeartbeats 1000000 in
theorem nearDn_calls {n kn : Nat} (h : Rd w A (digs x)) (hc : (digs x).length ≤ c) (hx : (digs x).length ≤ 1000) (hk : 0 < k) (hkn : kn = k.toNat) (hk1 : k ≤ 20000) (hn : n = rhe x kn) (hb : n ≤ 2 * bn) :
    Calls Tryd.prog 79 #[.slice A (digs x).length c, .int .i64 k] w (Tells w (.float .f64 (floatOfInt .f64 (n : Int)))) := by
  obtain ⟨W, hW⟩ : ∃ W, W = x / 2 ^ kn := ⟨_, rfl⟩
  obtain ⟨r, hr⟩ : ∃ r, r = x - W * 2 ^ kn := ⟨_, rfl⟩
  obtain ⟨p0, p1, p2, p3⟩ := rhe_parts (by omega) hW hr
  obtain ⟨H, hH⟩ : ∃ H, H = 1 * 2 ^ (kn - 1) := ⟨_, rfl⟩
  rw [← Nat.one_mul (2 ^ (kn - 1)), ← hH] at p1 p2 p3
  have hWb : W ≤ 2 * bn := by
    rw [hn] at hb
    rw [hW]; unfold rhe at hb; omega
  have hl2 : (digs (W * 2 ^ kn)).length ≤ (digs x).length := digs_len_le.2 (Nat.lt_of_le_of_lt p0 (digs_len_le.1 (Nat.le_refl _)))
  have hl1 : (digs W).length ≤ (digs x).length := by
    refine digs_len_le.2 (Nat.lt_of_le_of_lt ?_ (digs_len_le.1 (Nat.le_refl _)))
    rw [hW]; exact Nat.div_le_self _ _
  have ha := and_1 hWb
  have SR := Ho.mk (Na.shr_calls A c x kn k w h hc (by omega) hkn (by omega))
  rw [← hW] at SR
  have IN := Ho.mk (fun (A : Option Addr) (c : Nat) (V : World) (g : Rd V A (digs W)) => Nd.intYes_calls A c W V g (blen53 hWb))
  have SL := Ho.mk (fun (A : Option Addr) (c : Nat) (V : World) (g : Rd V A (digs W)) (gc : (digs W).length ≤ c) => N9.shl_calls A c W kn k V g gc (by omega) hkn (by omega))
  have SB := Ho.mk (fun (A1 : Option Addr) (c1 : Nat) (V : World) (b : Bel w V) (g : Rd V A1 (digs (W * 2 ^ kn))) (gc : (digs (W * 2 ^ kn)).length ≤ c1) => N5.sub_calls A A1 c c1 x (W * 2 ^ kn) V (h.bel b) hc g gc (by omega) p0)
  rw [← hr] at SB
  have OF := Ho.mk (fun (V : World) => R2.natOf_calls 1 1 V rfl (by omega))
  have hd1 : (digs 1).length ≤ 1 := digs_len_le.2 (by decide)
  have SH := Ho.mk (fun (A : Option Addr) (c : Nat) (V : World) (g : Rd V A (digs 1)) (gc : (digs 1).length ≤ c) => N9.shl_calls A c 1 (kn - 1) (k - 1) V g gc (by omega) (by omega) (by omega))
  rw [← hH] at SH
  have hWi : (W : Int) ≤ 9007199254740992 := by
    have : 2 * bn = 9007199254740992 := rfl
    omega
  have hW0 : (0 : Int) ≤ (W : Int) := by omega
  have CM := Ho.mk (fun (A B : Option Addr) (c d : Nat) (V : World) (g : Rd V A (digs r)) (g' : Rd V B (digs H)) => N5.cmp_calls A B c d r H V g g')
  have hcr := Ho.mk (F4.cmp_range (r : Int) (H : Int))
  have HP1 := Ho.mk p1
  have HP2 := Ho.mk p2
  have HP3 := Ho.mk p3
  rw [← hn] at HP1 HP2 HP3
  clear hn hb h hx hkn hW hr p0 p1 p2 p3 hH hWb hl1 hl2 hd1
  generalize cmpI (r : Int) (H : Int) = cv at *
  have q1 : IntKind.i64.wrap (k - 1) = k - 1 := IntWalk.i64_in _ (by omega)
  have HN : Ho ((n : Int) = (if cv = -1 then (W : Int) else if cv = 0 then (W : Int) + ((W % 2 : Nat) : Int) else (W : Int) + 1)) := ⟨by
    have := hcr.out
    by_cases z1 : cv = -1
    · rw [if_pos z1, HP1.out z1]
    · rw [if_neg z1]
      by_cases z2 : cv = 0
      · rw [if_pos z2, HP2.out z2]; omega
      · rw [if_neg z2, HP3.out (by omega)]; omega⟩
  have hm2 : ((W % 2 : Nat) : Int) = 0 ∨ ((W % 2 : Nat) : Int) = 1 := by omega
  clear HP1 HP2 HP3
  generalize ((W % 2 : Nat) : Int) = par at *
  generalize (W : Int) = wi at *
  generalize (n : Int) = ni at *
  generalize digs x = l0 at *
  generalize digs (W * 2 ^ kn) = l2 at *
  generalize digs W = l1 at *
  generalize digs r = l3 at *
  generalize digs H = l5 at *
  generalize digs 1 = l4 at *
  have hcv : cv = -1 ∨ cv = 0 ∨ cv = 1 := by have := hcr.out; omega
  clear hcr
  go_enter Tryd.func79, Tryd.ntmps79
  go_wp2_with fail
  (with_reducible refine SR.out.mono ?_); rintro _ wa ⟨A1, c1, rfl, hc1, hr1, hb1⟩
  go_wp2_with fail
  (with_reducible refine (IN.out _ _ _ hr1).mono ?_); rintro _ wb ⟨rfl, hb2⟩
  go_wp2_with fail
  (with_reducible refine (SL.out _ _ _ (hr1.bel hb2) hc1).mono ?_); rintro _ wc ⟨A2, c2, rfl, hc2, hr2, hb3⟩
  go_wp2_with fail
  (with_reducible refine (SB.out _ _ _ ((hb1.trans hb2).trans hb3) hr2 hc2).mono ?_); rintro _ wd ⟨A3, c3, rfl, hc3, hr3, hb4⟩
  go_wp2_with fail
  (with_reducible refine (OF.out _).mono ?_); rintro _ we ⟨A4, c4, rfl, hc4, hr4, hb5⟩
  go_wp2_with fail
  (with_reducible refine (SH.out _ _ _ hr4 hc4).mono ?_); rintro _ wf ⟨A5, c5, rfl, hc5, hr5, hb6⟩
  go_wp2_with fail
  (with_reducible refine (CM.out _ _ _ _ _ (hr3.bel (hb5.trans hb6)) hr5).mono ?_); rintro _ wg ⟨rfl, hd⟩
  have HB := Ho.mk ((((hb1.trans hb2).trans hb3).trans hb4).trans (hb5.trans hb6))
  have HG : Ho (Bel w wg) := ⟨by obtain ⟨j, rfl⟩ := hd; exact HB.out.drewN j⟩
  clear hd HB hb1 hb2 hb3 hb4 hb5 hb6 hr1 hr2 hr3 hr4 hr5 SR IN SL SB OF SH CM
  rcases hcv with rfl | rfl | rfl
  · go_wp2
    go_ret
    exact ⟨by rw [HN.out]; rfl, HG.out⟩
  · rcases hm2 with rfl | rfl
    · go_wp2
      go_ret
      exact ⟨by rw [HN.out]; simp, HG.out⟩
    · go_wp2
      go_ret
      exact ⟨by rw [HN.out]; rfl, HG.out⟩
  · go_wp2
    go_ret
    exact ⟨by rw [HN.out]; rfl, HG.out⟩
theorem nearest_calls {n : Nat} (h : Rd w A (digs x)) (hc : (digs x).length ≤ c) (hx : (digs x).length ≤ 1000) (hk0 : -20000 ≤ k) (hk1 : k ≤ 20000) (hn : n = if k ≤ 0 then x * 2 ^ (-k).toNat else rhe x k.toNat) (hb : n ≤ 2 * bn) :
    Calls Tryd.prog 79 #[.slice A (digs x).length c, .int .i64 k] w (Tells w (.float .f64 (floatOfInt .f64 (n : Int)))) := by
  by_cases hk : k ≤ 0
  · rw [if_pos hk] at hn
    exact nearUp_calls h hc hx hk rfl hk0 hn hb
  · rw [if_neg hk] at hn
    exact nearDn_calls h hc hx (by omega) rfl hk1 hn hb
end
end Go.Proofs.YtnmjnjhijcnbcaaDoor.G6

/-
  The walk of Near.
-/
namespace Go.Proofs.YtnmjnjhijcnbcaaDoor.G7
open Ieee Go Go.RowKit Go.Proofs.YtnmjnjhijcnbcaaDoor Go.Proofs.YtnmjnjhijcnbcaaDoor.Ow Go.Proofs.YtnmjnjhijcnbcaaDoor.Pl Go.Proofs.YtnmjnjhijcnbcaaDoor.Dp Go.Proofs.YtnmjnjhijcnbcaaDoor.Gp Go.Proofs.YtnmjnjhijcnbcaaDoor.Gq Go.Proofs.YtnmjnjhijcnbcaaDoor.G1 Go.Proofs.YtnmjnjhijcnbcaaDoor.G2 Go.Proofs.YtnmjnjhijcnbcaaDoor.F1

theorem top_blen {v : Int} (h : v ≠ 0) : de v + Nat.log2 (dm v) = de v + (blen (dm v) : Int) - 1 := by
  rw [blen_pos (fun c => h (dm_zero.1 c))]; omega
section
variable {A : Option Addr} {c L U : Nat} {v : Int} {w : World}
set_option maxRecDepth 100000 in
set_option maxHeartbeats 2000000 in
theorem mid_calls (h : Dv w A c v L U) (hL : L ≤ 10000) (hU : U ≤ 10000) (h0 : v ≠ 0) (t0 : -1080 ≤ de v + (blen (dm v) : Int) - 1) (t1 : de v + (blen (dm v) : Int) - 1 ≤ 1023) :
    Calls Tryd.prog 47 #[.agg #[.bool (dneg v), .slice A (digs (dm v)).length c, .int .i64 (de v)]] w (Tells w (.float .f64 (nw v))) := by
  have ht := top_blen h0
  obtain ⟨q, hq⟩ : ∃ q, q = max (de v + (blen (dm v) : Int) - 1 - 52) (-1074) := ⟨_, rfl⟩
  obtain ⟨n, hn⟩ : ∃ n, n = if q ≤ de v then dm v * 2 ^ (de v - q).toNat else rhe (dm v) (q - de v).toNat := ⟨_, rfl⟩
  obtain ⟨m1, m2, m3, m4⟩ := near_mid h0 (by rw [ht]; exact t0) (by rw [ht]; exact t1) q (by rw [ht]; exact hq) n hn
  have hle := h.len (by omega)
  have e0 := h.e0 (by omega)
  have e1 := h.e1 (by omega)
  have q0 : -1074 ≤ q := by omega
  have q1 : q ≤ 971 := by omega
  have e2 := h.wd.e_ge
  have e3 := h.wd.e_le
  have LN := Ho.mk (fun (W : World) (g : Bel w W) => N6.natLen_calls A c (dm v) W (h.rd.bel g))
  have NR := Ho.mk (fun (W : World) (g : Bel w W) => G6.nearest_calls (k := q - de v) (n := n) (h.rd.bel g) h.cap hle (by omega) (by omega) (by
    rw [hn]
    by_cases z : q ≤ de v
    · rw [if_pos z, if_pos (by omega), show -(q - de v) = de v - q by omega]
    · rw [if_neg z, if_neg (by omega)]) m3)
  have LD := Ho.mk (fun (W : World) => ldexpN_calls m3 q0 q1 m4 (nr_le v) W)
  have hl0 : ¬ (digs (dm v)).length = 0 := fun z => h0 (dm_zero.1 (digs_nil.1 (List.length_eq_zero_iff.1 z)))
  have hm := mul_sign (dneg v) (nr_le v) false
  rw [Bool.xor_false, ← m1, word_eq false, if_neg (by decide)] at hm
  have bq : (((digs (dm v)).length : Int) == 0) = false := beq_eq_false_iff_ne.2 (by omega)
  have b1 : (blen (dm v) : Int) ≤ 100000 := by
    have := blen_le.2 (h.wd.m_lt (by unfold K; omega))
    omega
  have b0 : 0 ≤ (blen (dm v) : Int) := by omega
  clear hn m1 m2 m3 m4 h hle h0 ht hl0
  generalize floatOfInt .f64 (n : Int) = fw at *
  generalize nr v = rw at *
  generalize nw v = res at *
  generalize (blen (dm v) : Int) = bl at *
  generalize digs (dm v) = l at *
  generalize de v = ev at *
  generalize dneg v = nb at *
  have hq2 : (q = -1074 ∧ ev + bl - 1 - 52 < -1074) ∨ (q = ev + bl - 1 - 52 ∧ -1074 ≤ ev + bl - 1 - 52) := by omega
  clear hq
  cases nb
  · rw [word_eq, if_neg (by decide)] at hm
    have hm2 : ∀ t w, (binOp .mul t (.float .f64 4607182418800017408) (.float .f64 rw)).run Tryd.prog w = .ok (.float .f64 res) w := fun t w => run_float_arith w .mul t .f64 _ _ res hm
    clear hm
    rcases hq2 with ⟨rfl, z⟩ | ⟨rfl, z⟩
    all_goals
      go_enter Tryd.func47, Tryd.ntmps47
      go_wp2_with fail
      go_quiet ((go_at_call 63; (with_reducible refine (LN.out _ (((Bel.refl w).alloc _).drewN _)).mono ?_); rintro e w' ⟨rfl, rfl⟩; exact ⟨rfl, _, rfl⟩))
      go_wp2_with first
        | (go_at_call 79; (with_reducible refine (NR.out _ (((Bel.refl w).alloc _).drewN _)).mono ?_); rintro _ w2 ⟨rfl, hb2⟩; have HB := Ho.mk ((((Bel.refl w).alloc _).drewN _).trans hb2); clear hb2)
        | (go_at_call 78; (with_reducible refine (LD.out _).mono ?_); rintro _ _ ⟨rfl, rfl⟩)
        | (simp only [hm2])
      go_ret
      exact ⟨rfl, HB.out⟩
  · rw [word_eq, if_pos rfl] at hm
    have hm2 : ∀ t w, (binOp .mul t (.float .f64 13830554455654793216) (.float .f64 rw)).run Tryd.prog w = .ok (.float .f64 res) w := fun t w => run_float_arith w .mul t .f64 _ _ res hm
    clear hm
    rcases hq2 with ⟨rfl, z⟩ | ⟨rfl, z⟩
    all_goals
      go_enter Tryd.func47, Tryd.ntmps47
      go_wp2_with fail
      go_quiet ((go_at_call 63; (with_reducible refine (LN.out _ (((Bel.refl w).alloc _).drewN _)).mono ?_); rintro e w' ⟨rfl, rfl⟩; exact ⟨rfl, _, rfl⟩))
      go_wp2_with first
        | (go_at_call 79; (with_reducible refine (NR.out _ (((Bel.refl w).alloc _).drewN _)).mono ?_); rintro _ w2 ⟨rfl, hb2⟩; have HB := Ho.mk ((((Bel.refl w).alloc _).drewN _).trans hb2); clear hb2)
        | (go_at_call 78; (with_reducible refine (LD.out _).mono ?_); rintro _ _ ⟨rfl, rfl⟩)
        | (simp only [hm2])
      go_ret
      exact ⟨rfl, HB.out⟩
theorem zero_calls (h : Dv w A c 0 L U) :
    Calls Tryd.prog 47 #[.agg #[.bool (dneg 0), .slice A (digs (dm 0)).length c, .int .i64 (de 0)]] w (Tells w (.float .f64 (nw 0))) := by
  have LN : Ho (∀ W, Bel w W → Calls Tryd.prog 63 #[.slice A 0 c] W fun e w' => e = .returned (.int .i64 0) ∧ W = w') := ⟨fun W g => by
    have := N6.natLen_calls A c (dm 0) W (h.rd.bel g)
    rw [show dm 0 = 0 from odd_zero, digs_zero, blen_zero] at this; exact this⟩
  rw [show nw 0 = 0 from rfl, show dm 0 = 0 from odd_zero, digs_zero, de_zero, dneg_zero, List.length_nil]
  clear h
  go_enter Tryd.func47, Tryd.ntmps47
  go_wp2_with fail
  go_quiet ((go_at_call 63; (with_reducible refine (LN.out _ (((Bel.refl w).alloc _).drewN _)).mono ?_); rintro e w' ⟨rfl, rfl⟩; exact ⟨rfl, _, rfl⟩))
  go_wp2
  go_ret
  exact ⟨rfl, ((Bel.refl w).alloc _).drewN _⟩
set_option maxHeartbeats 1000000 in
theorem low_calls (h : Dv w A c v L U) (hL : L ≤ 10000) (hU : U ≤ 10000) (h0 : v ≠ 0) (t0 : de v + (blen (dm v) : Int) - 1 < -1080) :
    Calls Tryd.prog 47 #[.agg #[.bool (dneg v), .slice A (digs (dm v)).length c, .int .i64 (de v)]] w (Tells w (.float .f64 (nw v))) := by
  have ht := top_blen h0
  have e0 := h.e0 (by omega)
  have e1 := h.e1 (by omega)
  have LN := Ho.mk (fun (W : World) (g : Bel w W) => N6.natLen_calls A c (dm v) W (h.rd.bel g))
  have b1 : (blen (dm v) : Int) ≤ 100000 := by
    have := blen_le.2 (h.wd.m_lt (by unfold K; omega))
    omega
  have b0 : 0 ≤ (blen (dm v) : Int) := by omega
  have hl0 : ¬ (digs (dm v)).length = 0 := fun z => h0 (dm_zero.1 (digs_nil.1 (List.length_eq_zero_iff.1 z)))
  have bq : (((digs (dm v)).length : Int) == 0) = false := beq_eq_false_iff_ne.2 (by omega)
  have hn : nw v = 0 := by unfold nw; rw [if_pos (.inr (by rw [ht]; exact t0))]
  rw [hn]
  clear hn h h0 ht hl0
  generalize (blen (dm v) : Int) = bl at *
  generalize digs (dm v) = l at *
  generalize de v = ev at *
  generalize dneg v = nb at *
  cases nb
  all_goals
    go_enter Tryd.func47, Tryd.ntmps47
    go_wp2_with fail
    go_quiet ((go_at_call 63; (with_reducible refine (LN.out _ (((Bel.refl w).alloc _).drewN _)).mono ?_); rintro e w' ⟨rfl, rfl⟩; exact ⟨rfl, _, rfl⟩))
    go_wp2
    go_ret
    exact ⟨rfl, ((Bel.refl w).alloc _).drewN _⟩
set_option maxHeartbeats 1000000 in
theorem high_calls (h : Dv w A c v L U) (hL : L ≤ 10000) (hU : U ≤ 10000) (h0 : v ≠ 0) (t1 : 1023 < de v + (blen (dm v) : Int) - 1) :
    Calls Tryd.prog 47 #[.agg #[.bool (dneg v), .slice A (digs (dm v)).length c, .int .i64 (de v)]] w (Tells w (.float .f64 (nw v))) := by
  have ht := top_blen h0
  have e0 := h.e0 (by omega)
  have e1 := h.e1 (by omega)
  have LN := Ho.mk (fun (W : World) (g : Bel w W) => N6.natLen_calls A c (dm v) W (h.rd.bel g))
  have b1 : (blen (dm v) : Int) ≤ 100000 := by
    have := blen_le.2 (h.wd.m_lt (by unfold K; omega))
    omega
  have b0 : 0 ≤ (blen (dm v) : Int) := by omega
  have hl0 : ¬ (digs (dm v)).length = 0 := fun z => h0 (dm_zero.1 (digs_nil.1 (List.length_eq_zero_iff.1 z)))
  have bq : (((digs (dm v)).length : Int) == 0) = false := beq_eq_false_iff_ne.2 (by omega)
  have hn : nw v = double.word (dneg v) infR := near_top (by rw [ht]; exact t1) h0
  rw [hn]
  clear hn h h0 ht hl0
  generalize (blen (dm v) : Int) = bl at *
  generalize digs (dm v) = l at *
  generalize de v = ev at *
  generalize dneg v = nb at *
  have I1 := Ho.mk (inf_calls 1)
  have I2 := Ho.mk (inf_calls (-1))
  have c1 : ∀ w, (convert 43 3 (.float .f64 4607182418800017408)).run Tryd.prog w = .ok (.int .i64 1) w := fun w => run_convert_float_int w 43 3 .f64 .i64 _ 1 (by kernel_rfl) (by kernel_rfl) (by kernel_rfl)
  have c2 : ∀ w, (convert 43 3 (.float .f64 13830554455654793216)).run Tryd.prog w = .ok (.int .i64 (-1)) w := fun w => run_convert_float_int w 43 3 .f64 .i64 _ (-1) (by kernel_rfl) (by kernel_rfl) (by kernel_rfl)
  cases nb
  all_goals
    go_enter Tryd.func47, Tryd.ntmps47
    go_wp2_with fail
    go_quiet ((go_at_call 63; (with_reducible refine (LN.out _ (((Bel.refl w).alloc _).drewN _)).mono ?_); rintro e w' ⟨rfl, rfl⟩; exact ⟨rfl, _, rfl⟩))
    go_wp2_with first
      | (go_at_call 71; (first | (with_reducible refine (I1.out _).mono ?_) | (with_reducible refine (I2.out _).mono ?_)); rintro _ _ ⟨rfl, rfl⟩)
      | (simp only [c1])
      | (simp only [c2])
    go_ret
    exact ⟨rfl, ((Bel.refl w).alloc _).drewN _⟩
/-- Near tells the nearest float. -/
theorem near_calls (h : Dv w A c v L U) (hL : L ≤ 10000) (hU : U ≤ 10000) :
    Calls Tryd.prog 47 #[.agg #[.bool (dneg v), .slice A (digs (dm v)).length c, .int .i64 (de v)]] w (Tells w (.float .f64 (nw v))) := by
  by_cases h0 : v = 0
  · subst h0; exact zero_calls h
  · by_cases t0 : de v + (blen (dm v) : Int) - 1 < -1080
    · exact low_calls h hL hU h0 t0
    · by_cases t1 : 1023 < de v + (blen (dm v) : Int) - 1
      · exact high_calls h hL hU h0 t1
      · exact mid_calls h hL hU h0 (by omega) (by omega)
end
end Go.Proofs.YtnmjnjhijcnbcaaDoor.G7

/-
  The walks of the reference's rounded and Near.
-/
namespace Go.Proofs.YtnmjnjhijcnbcaaDoor.G8
open Ieee Go Go.RowKit Go.Proofs.YtnmjnjhijcnbcaaDoor Go.Proofs.YtnmjnjhijcnbcaaDoor.Ow Go.Proofs.YtnmjnjhijcnbcaaDoor.Pl Go.Proofs.YtnmjnjhijcnbcaaDoor.Dp Go.Proofs.YtnmjnjhijcnbcaaDoor.Gp Go.Proofs.YtnmjnjhijcnbcaaDoor.Gq Go.Proofs.YtnmjnjhijcnbcaaDoor.G1 Go.Proofs.YtnmjnjhijcnbcaaDoor.G2 Go.Proofs.YtnmjnjhijcnbcaaDoor.F1 Go.Proofs.YtnmjnjhijcnbcaaDoor.G6 Go.Proofs.YtnmjnjhijcnbcaaDoor.G7

theorem rhe_parts2 {x k W r : Nat} (hW : W = x / 2 ^ k) (hr : r = x - W * 2 ^ k) : W * 2 ^ k ≤ x ∧
    (cmpI ((r * 2 ^ 1 : Nat) : Int) ((1 * 2 ^ k : Nat) : Int) = -1 → rhe x k = W) ∧ (cmpI ((r * 2 ^ 1 : Nat) : Int) ((1 * 2 ^ k : Nat) : Int) = 0 → rhe x k = W + W % 2) ∧ (cmpI ((r * 2 ^ 1 : Nat) : Int) ((1 * 2 ^ k : Nat) : Int) = 1 → rhe x k = W + 1) := by
  have h1 := Nat.div_add_mod x (2 ^ k)
  rw [← hW, Nat.mul_comm] at h1
  have h2 : x % 2 ^ k = r := by omega
  generalize W * 2 ^ k = q at *
  unfold rhe cmpI
  rw [← hW, h2, Nat.one_mul, Nat.pow_one]
  clear hW
  generalize 2 ^ k = z at *
  rcases Nat.lt_trichotomy (r * 2) z with q1 | q1 | q1
  · rw [if_pos (show ((r * 2 : Nat) : Int) < (z : Int) by omega)]
    refine ⟨by omega, fun _ => ?_, fun h => absurd h (by decide), fun h => absurd h (by decide)⟩
    rw [if_neg (by omega), if_neg (by omega)]; rfl
  · rw [if_neg (show ¬ ((r * 2 : Nat) : Int) < (z : Int) by omega), if_neg (show ¬ (z : Int) < ((r * 2 : Nat) : Int) by omega)]
    refine ⟨by omega, fun h => absurd h (by decide), fun _ => ?_, fun h => absurd h (by decide)⟩
    rw [if_neg (by omega), if_pos (by omega)]
  · rw [if_neg (show ¬ ((r * 2 : Nat) : Int) < (z : Int) by omega), if_pos (show (z : Int) < ((r * 2 : Nat) : Int) by omega)]
    refine ⟨by omega, fun h => absurd h (by decide), fun h => absurd h (by decide), fun _ => ?_⟩
    rw [if_pos (by omega)]
section
variable {A : Option Addr} {c x : Nat} {k : Int} {w : World}
theorem rndUp_calls {n kn : Nat} (h : Rd w A (digs x)) (hc : (digs x).length ≤ c) (hx : (digs x).length ≤ 1000) (hk : k ≤ 0) (hkn : kn = (-k).toNat) (hk0 : -20000 ≤ k) (hn : n = x * 2 ^ kn) (hb : n ≤ 2 * bn) :
    Calls Tryd.prog 80 #[.slice A (digs x).length c, .int .i64 k] w (Tells w (.int .i64 (n : Int))) := by
  have SL := Ho.mk (R7.shl_calls A c x kn (-k) w h hc (by omega) hkn (by omega))
  rw [← hn] at SL
  have IN := Ho.mk (fun (A : Option Addr) (c : Nat) (W : World) (g : Rd W A (digs n)) => R4.intYes_calls A c n W g (blen53 hb))
  clear hn hb h hc hx hkn
  generalize digs x = l0 at *
  generalize digs n = l1 at *
  generalize (n : Int) = ni at *
  go_enter Tryd.func80, Tryd.ntmps80
  go_wp2_with fail
  (with_reducible refine SL.out.mono ?_); rintro _ w1 ⟨A1, c1, rfl, hc1, hr1, hb1⟩
  go_wp2_with fail
  (with_reducible refine (IN.out _ _ _ hr1).mono ?_); rintro _ w2 ⟨rfl, rfl⟩
  have HB := Ho.mk hb1
  clear hr1 hb1
  go_wp2
  go_ret
  exact ⟨rfl, HB.out⟩
set_option maxHeartbeats 1000000 in
theorem rndDn_calls {n kn : Nat} (h : Rd w A (digs x)) (hc : (digs x).length ≤ c) (hx : (digs x).length ≤ 1000) (hk : 0 < k) (hkn : kn = k.toNat) (hk1 : k ≤ 20000) (hn : n = rhe x kn) (hb : n ≤ 2 * bn) :
    Calls Tryd.prog 80 #[.slice A (digs x).length c, .int .i64 k] w (Tells w (.int .i64 (n : Int))) := by
  obtain ⟨W, hW⟩ : ∃ W, W = x / 2 ^ kn := ⟨_, rfl⟩
  obtain ⟨r, hr⟩ : ∃ r, r = x - W * 2 ^ kn := ⟨_, rfl⟩
  obtain ⟨p0, p1, p2, p3⟩ := rhe_parts2 hW hr
  obtain ⟨H, hH⟩ : ∃ H, H = 1 * 2 ^ kn := ⟨_, rfl⟩
  obtain ⟨R, hR⟩ : ∃ R, R = r * 2 ^ 1 := ⟨_, rfl⟩
  rw [← hH, ← hR] at p1 p2 p3
  have hWb : W ≤ 2 * bn := by
    rw [hn] at hb
    rw [hW]; unfold rhe at hb; omega
  have hl2 : (digs (W * 2 ^ kn)).length ≤ (digs x).length := digs_len_le.2 (Nat.lt_of_le_of_lt p0 (digs_len_le.1 (Nat.le_refl _)))
  have hl1 : (digs W).length ≤ (digs x).length := by
    refine digs_len_le.2 (Nat.lt_of_le_of_lt ?_ (digs_len_le.1 (Nat.le_refl _)))
    rw [hW]; exact Nat.div_le_self _ _
  have hl3 : (digs r).length ≤ (digs x).length := by
    refine digs_len_le.2 (Nat.lt_of_le_of_lt ?_ (digs_len_le.1 (Nat.le_refl _)))
    rw [hr]; exact Nat.sub_le _ _
  have SR := Ho.mk (R7.shr_calls A c x kn k w h hc (by omega) hkn (by omega))
  rw [← hW] at SR
  have IN := Ho.mk (fun (A : Option Addr) (c : Nat) (V : World) (g : Rd V A (digs W)) => R4.intYes_calls A c W V g (blen53 hWb))
  have SL := Ho.mk (fun (A : Option Addr) (c : Nat) (V : World) (g : Rd V A (digs W)) (gc : (digs W).length ≤ c) => R7.shl_calls A c W kn k V g gc (by omega) hkn (by omega))
  have SB := Ho.mk (fun (A1 : Option Addr) (c1 : Nat) (V : World) (b : Bel w V) (g : Rd V A1 (digs (W * 2 ^ kn))) => R5.sub_calls A A1 c c1 x (W * 2 ^ kn) V (h.bel b) g (by omega) p0)
  rw [← hr] at SB
  have SH1 := Ho.mk (fun (A : Option Addr) (c : Nat) (V : World) (g : Rd V A (digs r)) (gc : (digs r).length ≤ c) => R7.shl_calls A c r 1 1 V g gc (by omega) rfl (by omega))
  rw [← hR] at SH1
  have hd1 : digs 1 = [1] := F0.digs1 (by decide) (by decide)
  have SH : Ho (∀ (A : Option Addr) (V : World), Rd V A [1] → Calls Tryd.prog 57 #[.slice A 1 1, .int .i64 k] V (Row V H)) := ⟨fun A V g => by
    have := R7.shl_calls A 1 1 kn k V (by rw [hd1]; exact g) (by rw [hd1]; exact Nat.le_refl _) (by rw [hd1]; decide) hkn (by omega)
    rw [hd1, ← hH] at this; exact this⟩
  have hWi : (W : Int) ≤ 9007199254740992 := by
    have : 2 * bn = 9007199254740992 := rfl
    omega
  have hW0 : (0 : Int) ≤ (W : Int) := by omega
  have CM := Ho.mk (fun (A B : Option Addr) (c d : Nat) (V : World) (g : Rd V A (digs R)) (g' : Rd V B (digs H)) => R3.cmp_calls A B c d R H V g g')
  have hcr := Ho.mk (F4.cmp_range (R : Int) (H : Int))
  have HP1 := Ho.mk p1
  have HP2 := Ho.mk p2
  have HP3 := Ho.mk p3
  rw [← hn] at HP1 HP2 HP3
  clear hn hb h hx hkn hW hr p0 p1 p2 p3 hH hWb hl1 hl2 hl3 hd1 hR
  generalize cmpI (R : Int) (H : Int) = cv at *
  have HN : Ho ((n : Int) = (if cv = -1 then (W : Int) else if cv = 0 then (W : Int) + ((W % 2 : Nat) : Int) else (W : Int) + 1)) := ⟨by
    have := hcr.out
    by_cases z1 : cv = -1
    · rw [if_pos z1, HP1.out z1]
    · rw [if_neg z1]
      by_cases z2 : cv = 0
      · rw [if_pos z2, HP2.out z2]; omega
      · rw [if_neg z2, HP3.out (by omega)]; omega⟩
  have hm2 : ((W % 2 : Nat) : Int) = 0 ∨ ((W % 2 : Nat) : Int) = 1 := by omega
  have ha : (W : Int) % 2 = ((W % 2 : Nat) : Int) := by omega
  have hb : (W : Int).tmod 2 = ((W % 2 : Nat) : Int) := by rw [Int.tmod_eq_emod_of_nonneg hW0]; exact ha
  clear HP1 HP2 HP3
  generalize ((W % 2 : Nat) : Int) = par at *
  generalize (W : Int) = wi at *
  generalize (n : Int) = ni at *
  generalize digs x = l0 at *
  generalize digs (W * 2 ^ kn) = l2 at *
  generalize digs W = l1 at *
  generalize digs r = l3 at *
  have hcv : cv = -1 ∨ cv = 0 ∨ cv = 1 := by have := hcr.out; omega
  clear hcr
  go_enter Tryd.func80, Tryd.ntmps80
  go_wp2_with fail
  (with_reducible refine SR.out.mono ?_); rintro _ wa ⟨A1, c1, rfl, hc1, hr1, hb1⟩
  go_wp2_with fail
  (with_reducible refine (IN.out _ _ _ hr1).mono ?_); rintro _ wb ⟨rfl, rfl⟩
  go_wp2_with fail
  (with_reducible refine (SL.out _ _ _ hr1 hc1).mono ?_); rintro _ wc ⟨A2, c2, rfl, hc2, hr2, hb3⟩
  go_wp2_with fail
  (with_reducible refine (SB.out _ _ _ (hb1.trans hb3) hr2).mono ?_); rintro _ wd ⟨A3, c3, rfl, hc3, hr3, hb4⟩
  go_wp2_with fail
  (with_reducible refine (SH1.out _ _ _ hr3 hc3).mono ?_); rintro _ we ⟨A4, c4, rfl, hc4, hr4, hb5⟩
  go_wp2_with fail
  (with_reducible refine (SH.out _ _ (F0.litRd we 1)).mono ?_); rintro _ wf ⟨A5, c5, rfl, hc5, hr5, hb6⟩
  go_wp2_with fail
  (with_reducible refine (CM.out _ _ _ _ _ (hr4.bel (((Bel.refl we).alloc _).trans hb6)) hr5).mono ?_); rintro _ wg ⟨rfl, hd⟩
  have HB := Ho.mk ((((hb1.trans hb3).trans hb4).trans hb5).trans (((Bel.refl we).alloc _).trans hb6))
  have HG : Ho (Bel w wg) := ⟨by obtain ⟨j, rfl⟩ := hd; exact HB.out.drewN j⟩
  clear hd HB hb1 hb3 hb4 hb5 hb6 hr1 hr2 hr3 hr4 hr5 SR IN SL SB SH SH1 CM
  rcases hcv with rfl | rfl | rfl
  · go_wp2
    go_ret
    exact ⟨by rw [HN.out]; rfl, HG.out⟩
  · rcases hm2 with rfl | rfl
    · go_wp2
      go_ret
      exact ⟨by rw [HN.out]; simp, HG.out⟩
    · go_wp2
      go_ret
      exact ⟨by rw [HN.out]; rfl, HG.out⟩
  · go_wp2
    go_ret
    exact ⟨by rw [HN.out]; rfl, HG.out⟩
theorem rounded_calls {n : Nat} (h : Rd w A (digs x)) (hc : (digs x).length ≤ c) (hx : (digs x).length ≤ 1000) (hk0 : -20000 ≤ k) (hk1 : k ≤ 20000) (hn : n = if k ≤ 0 then x * 2 ^ (-k).toNat else rhe x k.toNat) (hb : n ≤ 2 * bn) :
    Calls Tryd.prog 80 #[.slice A (digs x).length c, .int .i64 k] w (Tells w (.int .i64 (n : Int))) := by
  by_cases hk : k ≤ 0
  · rw [if_pos hk] at hn
    exact rndUp_calls h hc hx hk rfl hk0 hn hb
  · rw [if_neg hk] at hn
    exact rndDn_calls h hc hx (by omega) rfl hk1 hn hb
end
end Go.Proofs.YtnmjnjhijcnbcaaDoor.G8

/-
  The walk of the reference's Near.
-/
namespace Go.Proofs.YtnmjnjhijcnbcaaDoor.G9
open Ieee Go Go.RowKit Go.Proofs.YtnmjnjhijcnbcaaDoor Go.Proofs.YtnmjnjhijcnbcaaDoor.Ow Go.Proofs.YtnmjnjhijcnbcaaDoor.Pl Go.Proofs.YtnmjnjhijcnbcaaDoor.Dp Go.Proofs.YtnmjnjhijcnbcaaDoor.Gp Go.Proofs.YtnmjnjhijcnbcaaDoor.Gq Go.Proofs.YtnmjnjhijcnbcaaDoor.G1 Go.Proofs.YtnmjnjhijcnbcaaDoor.G2 Go.Proofs.YtnmjnjhijcnbcaaDoor.F1 Go.Proofs.YtnmjnjhijcnbcaaDoor.G6 Go.Proofs.YtnmjnjhijcnbcaaDoor.G7 Go.Proofs.YtnmjnjhijcnbcaaDoor.G8

theorem xor_top {r : Nat} (h : r < sgnW) : r ^^^ 2 ^ 63 = sgnW + r := by
  have e : sgnW = 2 ^ 63 := rfl
  apply Nat.eq_of_testBit_eq
  intro i
  rw [Nat.testBit_xor, Nat.testBit_two_pow, e]
  rcases Nat.lt_trichotomy i 63 with q | q | q
  · rw [Nat.testBit_two_pow_add_gt q, decide_eq_false (by omega), Bool.xor_false]
  · subst q
    rw [Nat.testBit_two_pow_add_eq, decide_eq_true rfl, Bool.xor_true]
  · have h1 : r < 2 ^ i := Nat.lt_of_lt_of_le h (by rw [e]; exact Nat.pow_le_pow_right (by decide) (by omega))
    have h2 : 2 ^ 63 + r < 2 ^ i := by
      have : (2 : Nat) ^ 64 ≤ 2 ^ i := Nat.pow_le_pow_right (by decide) (by omega)
      have e2 : (2 : Nat) ^ 64 = 2 ^ 63 + 2 ^ 63 := rfl
      rw [e] at h; omega
    rw [Nat.testBit_lt_two_pow h1, Nat.testBit_lt_two_pow h2, decide_eq_false (by omega)]; rfl
/-- A float's opposite. -/
theorem neg_word (n : Bool) {r : Nat} (h : r < sgnW) : Op.negFloat .f64 (double.word n r) = double.word (!n) r := by
  show double.word n r ^^^ 2 ^ 63 = _
  rw [word_eq, word_eq]
  cases n
  · rw [if_neg (by decide), if_pos (by decide), xor_top h]
  · rw [if_pos rfl, if_neg (by decide), ← xor_top h, Nat.xor_assoc, Nat.xor_self, Nat.xor_zero]
theorem neg_pos {r : Nat} (h : r < sgnW) : double.word true r = Op.negFloat .f64 r := by
  have := neg_word false h
  rw [word_eq false, if_neg (by decide)] at this
  exact this.symm
theorem run_neg (b : Nat) (w : World) : (Op.unary .neg (.float .f64 b)).run Tryd.prog w = .ok (.float .f64 (Op.negFloat .f64 b)) w := rfl
section
variable {A : Option Addr} {c L U : Nat} {v : Int} {w : World}
theorem rzero_calls (h : Dv w A c 0 L U) :
    Calls Tryd.prog 48 #[.agg #[.bool (dneg 0), .slice A (digs (dm 0)).length c, .int .i64 (de 0)]] w (Tells w (.float .f64 (nw 0))) := by
  rw [show nw 0 = 0 from rfl, show dm 0 = 0 from odd_zero, digs_zero, de_zero, dneg_zero, List.length_nil]
  clear h
  go_enter Tryd.func48, Tryd.ntmps48
  go_wp2
  go_ret
  exact ⟨rfl, (Bel.refl w).alloc _⟩
set_option maxHeartbeats 1000000 in
theorem rlow_calls (h : Dv w A c v L U) (hL : L ≤ 10000) (hU : U ≤ 10000) (h0 : v ≠ 0) (t0 : de v + (blen (dm v) : Int) - 1 < -1080) :
    Calls Tryd.prog 48 #[.agg #[.bool (dneg v), .slice A (digs (dm v)).length c, .int .i64 (de v)]] w (Tells w (.float .f64 (nw v))) := by
  have ht := top_blen h0
  have e0 := h.e0 (by omega)
  have e1 := h.e1 (by omega)
  have LN := Ho.mk (fun (W : World) (g : Bel w W) => R3.len_calls A c (dm v) W (h.rd.bel g))
  have b1 : (blen (dm v) : Int) ≤ 100000 := by
    have := blen_le.2 (h.wd.m_lt (by unfold K; omega))
    omega
  have b0 : 0 ≤ (blen (dm v) : Int) := by omega
  have hl0 : ¬ (digs (dm v)).length = 0 := fun z => h0 (dm_zero.1 (digs_nil.1 (List.length_eq_zero_iff.1 z)))
  have bq : (((digs (dm v)).length : Int) == 0) = false := beq_eq_false_iff_ne.2 (by omega)
  have hn : nw v = 0 := by unfold nw; rw [if_pos (.inr (by rw [ht]; exact t0))]
  rw [hn]
  clear hn h h0 ht hl0
  generalize (blen (dm v) : Int) = bl at *
  generalize digs (dm v) = l at *
  generalize de v = ev at *
  generalize dneg v = nb at *
  go_enter Tryd.func48, Tryd.ntmps48
  go_wp2_with fail
  go_quiet ((go_at_call 38; (with_reducible refine (LN.out _ (((Bel.refl w).alloc _).drewN _)).mono ?_); rintro e w' ⟨rfl, rfl⟩; exact ⟨rfl, _, rfl⟩))
  go_wp2
  go_ret
  exact ⟨rfl, ((Bel.refl w).alloc _).drewN _⟩
set_option maxHeartbeats 1000000 in
theorem rhigh_calls (h : Dv w A c v L U) (hL : L ≤ 10000) (hU : U ≤ 10000) (h0 : v ≠ 0) (t1 : 1023 < de v + (blen (dm v) : Int) - 1) :
    Calls Tryd.prog 48 #[.agg #[.bool (dneg v), .slice A (digs (dm v)).length c, .int .i64 (de v)]] w (Tells w (.float .f64 (nw v))) := by
  have ht := top_blen h0
  have e0 := h.e0 (by omega)
  have e1 := h.e1 (by omega)
  have LN := Ho.mk (fun (W : World) (g : Bel w W) => R3.len_calls A c (dm v) W (h.rd.bel g))
  have b1 : (blen (dm v) : Int) ≤ 100000 := by
    have := blen_le.2 (h.wd.m_lt (by unfold K; omega))
    omega
  have b0 : 0 ≤ (blen (dm v) : Int) := by omega
  have hl0 : ¬ (digs (dm v)).length = 0 := fun z => h0 (dm_zero.1 (digs_nil.1 (List.length_eq_zero_iff.1 z)))
  have bq : (((digs (dm v)).length : Int) == 0) = false := beq_eq_false_iff_ne.2 (by omega)
  have hn : nw v = double.word (dneg v) infR := near_top (by rw [ht]; exact t1) h0
  rw [hn]
  clear hn h h0 ht hl0
  generalize (blen (dm v) : Int) = bl at *
  generalize digs (dm v) = l at *
  generalize de v = ev at *
  generalize dneg v = nb at *
  have I1 := Ho.mk (inf_calls 1)
  have I2 := Ho.mk (inf_calls (-1))
  cases nb
  all_goals
    go_enter Tryd.func48, Tryd.ntmps48
    go_wp2_with fail
    go_quiet ((go_at_call 38; (with_reducible refine (LN.out _ (((Bel.refl w).alloc _).drewN _)).mono ?_); rintro e w' ⟨rfl, rfl⟩; exact ⟨rfl, _, rfl⟩))
    go_wp2_with first
      | (go_at_call 71; (first | (with_reducible refine (I1.out _).mono ?_) | (with_reducible refine (I2.out _).mono ?_)); rintro _ _ ⟨rfl, rfl⟩)
    go_ret
    exact ⟨rfl, ((Bel.refl w).alloc _).drewN _⟩
set_option maxRecDepth 100000 in
set_option maxHeartbeats 2000000 in
theorem rmid_calls (h : Dv w A c v L U) (hL : L ≤ 10000) (hU : U ≤ 10000) (h0 : v ≠ 0) (t0 : -1080 ≤ de v + (blen (dm v) : Int) - 1) (t1 : de v + (blen (dm v) : Int) - 1 ≤ 1023) :
    Calls Tryd.prog 48 #[.agg #[.bool (dneg v), .slice A (digs (dm v)).length c, .int .i64 (de v)]] w (Tells w (.float .f64 (nw v))) := by
  have ht := top_blen h0
  obtain ⟨q, hq⟩ : ∃ q, q = max (de v + (blen (dm v) : Int) - 1 - 52) (-1074) := ⟨_, rfl⟩
  obtain ⟨n, hn⟩ : ∃ n, n = if q ≤ de v then dm v * 2 ^ (de v - q).toNat else rhe (dm v) (q - de v).toNat := ⟨_, rfl⟩
  obtain ⟨m1, m2, m3, m4⟩ := near_mid h0 (by rw [ht]; exact t0) (by rw [ht]; exact t1) q (by rw [ht]; exact hq) n hn
  have hle := h.len (by omega)
  have e0 := h.e0 (by omega)
  have e1 := h.e1 (by omega)
  have q0 : -1074 ≤ q := by omega
  have q1 : q ≤ 971 := by omega
  have e2 := h.wd.e_ge
  have e3 := h.wd.e_le
  have LN := Ho.mk (fun (W : World) (g : Bel w W) => R3.len_calls A c (dm v) W (h.rd.bel g))
  have NR := Ho.mk (fun (W : World) (g : Bel w W) => G8.rounded_calls (k := q - de v) (n := n) (h.rd.bel g) h.cap hle (by omega) (by omega) (by
    rw [hn]
    by_cases z : q ≤ de v
    · rw [if_pos z, if_pos (by omega), show -(q - de v) = de v - q by omega]
    · rw [if_neg z, if_neg (by omega)]) m3)
  have LD := Ho.mk (fun (W : World) => ldexpN_calls m3 q0 q1 m4 (nr_le v) W)
  have hl0 : ¬ (digs (dm v)).length = 0 := fun z => h0 (dm_zero.1 (digs_nil.1 (List.length_eq_zero_iff.1 z)))
  have bq : (((digs (dm v)).length : Int) == 0) = false := beq_eq_false_iff_ne.2 (by omega)
  have b1 : (blen (dm v) : Int) ≤ 100000 := by
    have := blen_le.2 (h.wd.m_lt (by unfold K; omega))
    omega
  have b0 : 0 ≤ (blen (dm v) : Int) := by omega
  have hri := nr_lt v
  rw [m1]
  clear hn m1 m2 m3 m4 h hle h0 ht hl0
  obtain ⟨ni, hni⟩ : ∃ ni : Int, (n : Int) = ni := ⟨_, rfl⟩
  rw [hni] at NR LD
  clear hni
  generalize nr v = rw at *
  generalize (blen (dm v) : Int) = bl at *
  generalize digs (dm v) = l at *
  generalize de v = ev at *
  generalize dneg v = nb at *
  have hq2 : (q = -1074 ∧ ev + bl - 1 - 52 < -1074) ∨ (q = ev + bl - 1 - 52 ∧ -1074 ≤ ev + bl - 1 - 52) := by omega
  clear hq
  cases nb
  · have KB0 := Ho.mk (Blk.new w [.bool false, .slice A l.length c, .int .i64 ev] 24)
    rcases hq2 with ⟨rfl, z⟩ | ⟨rfl, z⟩
    all_goals
      go_enter Tryd.func48, Tryd.ntmps48
      go_wp2_with fail
      go_quiet ((go_at_call 38; (with_reducible refine (LN.out _ (((Bel.refl w).alloc _).drewN _)).mono ?_); rintro e w' ⟨rfl, rfl⟩; exact ⟨rfl, _, rfl⟩))
      go_wp2_with first
        | (go_at_call 80; (with_reducible refine (NR.out _ (((Bel.refl w).alloc _).drewN _)).mono ?_); rintro _ w2 ⟨rfl, hb2⟩; have KB := Ho.mk (KB0.out.bel (((Bel.refl _).drewN _).trans hb2)); have y0 := KB.out.cell (i := 0) rfl; have HB := Ho.mk ((((Bel.refl w).alloc _).drewN _).trans hb2); clear hb2)
        | (go_at_call 78; (with_reducible refine (LD.out _).mono ?_); rintro _ _ ⟨rfl, rfl⟩)
      go_ret
      exact ⟨by rw [word_eq, if_neg (by decide)]; rfl, HB.out⟩
  · have KB0 := Ho.mk (Blk.new w [.bool true, .slice A l.length c, .int .i64 ev] 24)
    rcases hq2 with ⟨rfl, z⟩ | ⟨rfl, z⟩
    all_goals
      go_enter Tryd.func48, Tryd.ntmps48
      go_wp2_with fail
      go_quiet ((go_at_call 38; (with_reducible refine (LN.out _ (((Bel.refl w).alloc _).drewN _)).mono ?_); rintro e w' ⟨rfl, rfl⟩; exact ⟨rfl, _, rfl⟩))
      go_wp2_with first
        | (go_at_call 80; (with_reducible refine (NR.out _ (((Bel.refl w).alloc _).drewN _)).mono ?_); rintro _ w2 ⟨rfl, hb2⟩; have KB := Ho.mk (KB0.out.bel (((Bel.refl _).drewN _).trans hb2)); have y0 := KB.out.cell (i := 0) rfl; have HB := Ho.mk ((((Bel.refl w).alloc _).drewN _).trans hb2); clear hb2)
        | (go_at_call 78; (with_reducible refine (LD.out _).mono ?_); rintro _ _ ⟨rfl, rfl⟩)
        | (simp only [run_neg])
      go_ret
      exact ⟨by rw [neg_pos hri]; rfl, HB.out⟩
/-- The reference's Near tells the same. -/
theorem rnear_calls (h : Dv w A c v L U) (hL : L ≤ 10000) (hU : U ≤ 10000) :
    Calls Tryd.prog 48 #[.agg #[.bool (dneg v), .slice A (digs (dm v)).length c, .int .i64 (de v)]] w (Tells w (.float .f64 (nw v))) := by
  by_cases h0 : v = 0
  · subst h0; exact rzero_calls h
  · by_cases t0 : de v + (blen (dm v) : Int) - 1 < -1080
    · exact rlow_calls h hL hU h0 t0
    · by_cases t1 : 1023 < de v + (blen (dm v) : Int) - 1
      · exact rhigh_calls h hL hU h0 t1
      · exact rmid_calls h hL hU h0 (by omega) (by omega)
end
end Go.Proofs.YtnmjnjhijcnbcaaDoor.G9
