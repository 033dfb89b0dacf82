/-
  The walk of the document's answer to layer 2: Cut.
-/
import Derived.Test.YtnmjnjhijcnbcaaDoorD8
set_option linter.unusedVariables false
set_option linter.unusedSimpArgs false
namespace Go.Proofs.YtnmjnjhijcnbcaaDoor.D9
open Go Go.RowKit Go.Proofs.YtnmjnjhijcnbcaaDoor Go.Proofs.YtnmjnjhijcnbcaaDoor.Ow Go.Proofs.YtnmjnjhijcnbcaaDoor.Pl Go.Proofs.YtnmjnjhijcnbcaaDoor.Dp Go.Proofs.YtnmjnjhijcnbcaaDoor.D1 Go.Proofs.YtnmjnjhijcnbcaaDoor.D2 Go.Proofs.YtnmjnjhijcnbcaaDoor.D3

theorem len_add1 {x y a : Nat} (h : (digs x).length ≤ a) (k : (digs y).length ≤ a) : (digs (x + y)).length ≤ a + 1 := by
  apply digs_len_le.2
  have h1 := digs_len_le.1 h
  have h2 := digs_len_le.1 k
  rw [Nat.pow_succ]
  generalize 16777216 ^ a = z at *
  omega
theorem box_cells {w : World} {b : Nat} {t : TypeId} {c0 c1 c2 : Value} (h : Blk w b t [c0, c1, c2]) : w.cell? ⟨b, 0, none⟩ = some c0 ∧ w.cell? ⟨b, 1, none⟩ = some c1 ∧ w.cell? ⟨b, 2, none⟩ = some c2 := ⟨h.cell (i := 0) rfl, h.cell (i := 1) rfl, h.cell (i := 2) rfl⟩
theorem addOne_calls (A A1 : Option Addr) (c c1 y : Nat) (W : World) (g : Rd W A (digs y)) (g1 : Rd W A1 [1]) (hq : (digs y).length ≤ 1000) :
    Calls Tryd.prog 58 #[.slice A (digs y).length c, .slice A1 1 c1] W fun e w' => ∃ A c, e = .returned (.slice A (digs (y + 1)).length c) ∧ (digs (y + 1)).length ≤ c ∧ Rd w' A (digs (y + 1)) ∧ Bel W w' := by
  have := R4.add_calls A A1 c c1 y 1 W g (by rw [digs_one]; exact g1) (by omega) (by rw [digs_one]; decide)
  rwa [digs_one] at this
set_option maxRecDepth 100000 in
set_option maxHeartbeats 2000000 in
theorem cut_calls (A : Option Addr) (c n : Nat) (up : Bool) (v : Int) (w : World) (h : Rd w A (digs (dm v))) (hc : (digs (dm v)).length ≤ c) (hl : (digs (dm v)).length ≤ 1000) (b0 : -20000 ≤ de v) (b1 : de v ≤ 20000) (hn : n ≤ 20000) :
    Calls Tryd.prog 33 #[.agg #[.bool (dneg v), .slice A (digs (dm v)).length c, .int .i64 (de v)], .int .i64 (n : Int), .bool up] w (Gives w (cutV v n up)) := by
  have hbl : blen (dm v) ≤ 24000 := by have := blen_len (dm v); omega
  have LN := Ho.mk (fun (W : World) (g : Bel w W) => R3.len_calls A c (dm v) W (h.bel g))
  rcases Nat.lt_or_ge n (blen (dm v)) with hk | hk
  · obtain ⟨k, hkk⟩ : ∃ k, k = blen (dm v) - n := ⟨_, rfl⟩
    have HE : Ho (cutV v n up = sc (dneg v) (dm v / 2 ^ k + (if up = dneg v then 0 else 1)) (de v + k)) := ⟨by unfold cutV; rw [if_neg (by omega), ← hkk]; rfl⟩
    have hq : (digs (dm v / 2 ^ k)).length ≤ 1000 := Nat.le_trans (digs_len_mono (Nat.div_le_self _ _)) hl
    have SH := Ho.mk (fun (W : World) (g : Bel w W) => R7.shr_calls A c (dm v) k (k : Int) W (h.bel g) hc (by omega) (Int.toNat_natCast _).symm (by omega))
    have hsub : (blen (dm v) : Int) - (n : Int) = (k : Int) := by omega
    have hkpos : 0 < (k : Int) := by omega
    have hk5 : (k : Int) ≤ 24000 := by omega
    clear hkk hk
    rw [HE.out]
    by_cases hup : up = dneg v
    · rw [if_pos hup, Nat.add_zero]
      have MK := Ho.mk (fun (A : Option Addr) (c : Nat) (W : World) (g : Rd W A (digs (dm v / 2 ^ k))) (hc : (digs (dm v / 2 ^ k)).length ≤ c) => make_calls A c (dm v / 2 ^ k) (dneg v) (de v + k) W g hc (by omega) (by omega) (by omega))
      have hne : (up == dneg v) = true := by rw [hup]; simp
      generalize sc (dneg v) (dm v / 2 ^ k) (de v + k) = r at *
      clear HE hup h hc hl hq
      generalize dm v / 2 ^ k = y at *
      generalize blen (dm v) = bl at *
      generalize digs (dm v) = l at *
      generalize dneg v = n0 at *
      generalize de v = e0 at *
      have HB := Ho.mk (((Bel.refl w).alloc (.cells #[.bool n0, .slice A l.length c, .int .i64 e0] 24)).alloc (.cells #[.bool false, .slice none 0 0, .int .i64 0] 24))
      have KA := Ho.mk ((Blk.new w [.bool n0, .slice A l.length c, .int .i64 e0] 24).old (.cells #[.bool false, .slice none 0 0, .int .i64 0] 24))
      have KZ := Ho.mk (Blk.new (w.alloc (.cells #[.bool n0, .slice A l.length c, .int .i64 e0] 24)) [.bool false, .slice none 0 0, .int .i64 0] 24)
      rw [World.size_alloc] at KZ
      go_enter Tryd.func33, Tryd.ntmps33
      go_wp2_with fail
      (with_reducible refine (LN.out _ HB.out).mono ?_); rintro e w1 ⟨rfl, rfl⟩
      go_wp2_with fail
      (with_reducible refine (SH.out _ HB.out).mono ?_); rintro e w1 ⟨A2, c2, rfl, hc2, hr2, hb2⟩
      have KA2 := Ho.mk (KA.out.bel hb2)
      have KZ2 := Ho.mk (KZ.out.bel hb2)
      have HB2 := Ho.mk (HB.out.trans hb2)
      have HR2 := Ho.mk hr2
      clear hr2 hb2
      have y0a := KA2.out.cell (i := 0) rfl
      have y1a := KA2.out.cell (i := 1) rfl
      have y2a := KA2.out.cell (i := 2) rfl
      go_wp2_with fail
      (with_reducible refine (MK.out _ _ _ HR2.out hc2).mono ?_); rintro e w2 ⟨A3, c3, rfl, hc3, hr3, hb3⟩
      have KB2 := Ho.mk (KZ2.out.bel hb3)
      have HB3 := Ho.mk (HB2.out.trans hb3)
      have HR3 := Ho.mk hr3
      clear hr3 hb3 y0a y1a y2a
      have y0 := KB2.out.cell (i := 0) rfl
      have y1 := KB2.out.cell (i := 1) rfl
      have y2 := KB2.out.cell (i := 2) rfl
      have z0 := KB2.out.free 0
      have z1 := KB2.out.free 1
      have z2 := KB2.out.free 2
      go_wp2
      exact gives_end (fn := Tryd.f33) rfl rfl HB3.out (by omega) KB2.out HR3.out hc3
    · rw [if_neg hup]
      have hq2 := len_add1 hq (show (digs 1).length ≤ 1000 by rw [digs_one]; decide)
      have MK := Ho.mk (fun (A : Option Addr) (c : Nat) (W : World) (g : Rd W A (digs (dm v / 2 ^ k + 1))) (hc : (digs (dm v / 2 ^ k + 1)).length ≤ c) => make_calls A c (dm v / 2 ^ k + 1) (dneg v) (de v + k) W g hc (by omega) (by omega) (by omega))
      have AD := Ho.mk (fun (A A1 : Option Addr) (c c1 : Nat) (W : World) (g : Rd W A (digs (dm v / 2 ^ k))) (g1 : Rd W A1 [1]) => addOne_calls A A1 c c1 (dm v / 2 ^ k) W g g1 hq)
      have hne : (up == dneg v) = false := beq_eq_false_iff_ne.mpr hup
      generalize sc (dneg v) (dm v / 2 ^ k + 1) (de v + k) = r at *
      clear HE hup h hc hl hq hq2
      generalize dm v / 2 ^ k + 1 = z at *
      generalize dm v / 2 ^ k = y at *
      generalize blen (dm v) = bl at *
      generalize digs (dm v) = l at *
      generalize dneg v = n0 at *
      generalize de v = e0 at *
      have HB := Ho.mk (((Bel.refl w).alloc (.cells #[.bool n0, .slice A l.length c, .int .i64 e0] 24)).alloc (.cells #[.bool false, .slice none 0 0, .int .i64 0] 24))
      have KA := Ho.mk ((Blk.new w [.bool n0, .slice A l.length c, .int .i64 e0] 24).old (.cells #[.bool false, .slice none 0 0, .int .i64 0] 24))
      have KZ := Ho.mk (Blk.new (w.alloc (.cells #[.bool n0, .slice A l.length c, .int .i64 e0] 24)) [.bool false, .slice none 0 0, .int .i64 0] 24)
      rw [World.size_alloc] at KZ
      go_enter Tryd.func33, Tryd.ntmps33
      go_wp2_with fail
      (with_reducible refine (LN.out _ HB.out).mono ?_); rintro e w1 ⟨rfl, rfl⟩
      go_wp2_with fail
      (with_reducible refine (SH.out _ HB.out).mono ?_); rintro e w1 ⟨A2, c2, rfl, hc2, hr2, hb2⟩
      have KA2 := Ho.mk (KA.out.bel hb2)
      have KZ2 := Ho.mk (KZ.out.bel hb2)
      have HB2 := Ho.mk (HB.out.trans hb2)
      have HR2 := Ho.mk hr2
      clear hr2 hb2
      have y0a := KA2.out.cell (i := 0) rfl
      have y1a := KA2.out.cell (i := 1) rfl
      have y2a := KA2.out.cell (i := 2) rfl
      go_wp2_with fail
      have R1 : Rd (w1.alloc (.cells #[.int .i64 1] 3)) (some ⟨w1.heap.size, 0, none⟩) [1] := (Blk.new w1 (ints [1]) 3).rd (by decide)
      (with_reducible refine (AD.out _ _ _ _ _ (HR2.out.bel ((Bel.refl _).alloc _)) R1).mono ?_); rintro e w3 ⟨A4, c4, rfl, hc4, hr4, hb4⟩
      have hb5 := ((Bel.refl w1).alloc (.cells #[.int .i64 1] 3)).trans hb4
      have KA4 := Ho.mk (KA2.out.bel hb5)
      have KZ4 := Ho.mk (KZ2.out.bel hb5)
      have HB4 := Ho.mk (HB2.out.trans hb5)
      have HR4 := Ho.mk hr4
      clear hr4 hb4 hb5 R1 y0a y1a y2a
      have y0a := KA4.out.cell (i := 0) rfl
      have y1a := KA4.out.cell (i := 1) rfl
      have y2a := KA4.out.cell (i := 2) rfl
      go_wp2_with fail
      (with_reducible refine (MK.out _ _ _ HR4.out hc4).mono ?_); rintro e w2 ⟨A3, c3, rfl, hc3, hr3, hb3⟩
      have KB2 := Ho.mk (KZ4.out.bel hb3)
      have HB3 := Ho.mk (HB4.out.trans hb3)
      have HR3 := Ho.mk hr3
      clear hr3 hb3 y0a y1a y2a
      have y0 := KB2.out.cell (i := 0) rfl
      have y1 := KB2.out.cell (i := 1) rfl
      have y2 := KB2.out.cell (i := 2) rfl
      have z0 := KB2.out.free 0
      have z1 := KB2.out.free 1
      have z2 := KB2.out.free 2
      go_wp2
      exact gives_end (fn := Tryd.f33) rfl rfl HB3.out (by omega) KB2.out HR3.out hc3
  · have HE : Ho (cutV v n up = v) := ⟨by unfold cutV; rw [if_pos hk]⟩
    rw [HE.out]
    have hsub : (blen (dm v) : Int) ≤ (n : Int) := by omega
    have H := Ho.mk h
    have HC := Ho.mk hc
    clear HE hk h hc
    generalize blen (dm v) = bl at *
    have HB := Ho.mk (((Bel.refl w).alloc (.cells #[.bool (dneg v), .slice A (digs (dm v)).length c, .int .i64 (de v)] 24)).alloc (.cells #[.bool false, .slice none 0 0, .int .i64 0] 24))
    go_enter Tryd.func33, Tryd.ntmps33
    go_wp2_with fail
    (with_reducible refine (LN.out _ HB.out).mono ?_); rintro e w1 ⟨rfl, rfl⟩
    go_wp2
    exact bodyPost_ret (v := .agg #[.bool (dneg v), .slice A (digs (dm v)).length c, .int .i64 (de v)]) (by simp [results, Tryd.f33, go_sem]) rfl
      ⟨A, c, rfl, HC.out, H.out.bel (((Bel.refl w).alloc _).alloc _), ((Bel.refl w).alloc _).alloc _⟩
end Go.Proofs.YtnmjnjhijcnbcaaDoor.D9
