/-
  The walk of the document's answer to layer 2: Make.
-/
import Derived.Test.YtnmjnjhijcnbcaaDoorD1
set_option linter.unusedVariables false
set_option linter.unusedSimpArgs false
namespace Go.Proofs.YtnmjnjhijcnbcaaDoor.D2
open Go.RowKit Go.Proofs.YtnmjnjhijcnbcaaDoor Go.Proofs.YtnmjnjhijcnbcaaDoor.Ow Go.Proofs.YtnmjnjhijcnbcaaDoor.Pl Go.Proofs.YtnmjnjhijcnbcaaDoor.N2 Go.Proofs.YtnmjnjhijcnbcaaDoor.Dp Go.Proofs.YtnmjnjhijcnbcaaDoor.D1

theorem nth0 (y : Nat) : nth (digs y) 0 = ((y % 16777216 : Nat) : Int) := by
  by_cases h : y = 0
  · subst h; rw [digs_zero]; rfl
  · rw [digs_pos h]; rfl
theorem blen_len (x : Nat) : blen x ≤ 24 * (digs x).length := by
  refine blen_le.2 (Nat.lt_of_lt_of_le (digs_lt x) ?_)
  rw [show (16777216 : Nat) = 2 ^ 24 from rfl, ← Nat.pow_mul]
  exact Nat.le_refl _
/-- A natural's row does not lie in the block of a fresh struct. -/
theorem rd_far {w : World} {b : Nat} {t : TypeId} {n : Bool} {s : Value} {ad : Addr} {y : Nat} (hb : Blk w b t [.bool n, s, .int .i64 0]) (hs : ∀ z, s ≠ .int .i64 z) (h : Rd w (some ad) (digs y)) (hy : y ≠ 0) : ad.block ≠ b := by
  intro e
  have hl : 0 < (digs y).length := List.length_pos_iff.2 (fun c => hy (digs_nil.1 c))
  have hat : ∀ j, j < (digs y).length → [Value.bool n, s, .int .i64 0][ad.off + j]? = some (.int .i64 (nth (digs y) j)) := by
    intro j hj
    obtain ⟨ad', e', hc⟩ := h.cell j hj
    cases e'
    unfold World.cell? at hc
    rw [add_block, e, hb.out] at hc
    simp at hc
    have ho : (ad.add j).off = ad.off + j := by
      unfold Addr.add; split
      · subst_vars; rfl
      · rfl
    rw [← ho]; exact hc.2
  have h0 := hat 0 hl
  rw [Nat.add_zero] at h0
  have ho : ad.off = 2 ∧ nth (digs y) 0 = 0 := by
    match ho : ad.off, h0 with
    | 0, h0 => simp at h0
    | 1, h0 => simp at h0; exact absurd h0 (hs _)
    | 2, h0 => simp at h0; exact ⟨rfl, h0.symm⟩
    | k + 3, h0 => simp at h0
  rcases Nat.lt_or_ge 1 (digs y).length with h2 | h2
  · have h1 := hat 1 h2
    rw [ho.1] at h1
    simp at h1
  · have h3 := (digs_can y).2
    obtain ⟨z, hz⟩ := List.length_eq_one_iff.1 (show (digs y).length = 1 by omega)
    rw [hz] at h3 ho
    exact h3 (by simp; exact ho.2)

theorem rd_set {w : World} {A : Option Addr} {l : List Int} (h : Rd w A l) {p : Addr} (hp : ∀ ad, A = some ad → ad.block ≠ p.block) (v : Value) : Rd (w.setCell p v) A l :=
  ⟨h.max, fun j hj => by
    obtain ⟨ad, e, hc⟩ := h.cell j hj
    refine ⟨ad, e, ?_⟩
    rw [← hc]
    unfold World.cell?
    rw [Below.heap_setCell w p v _ (by rw [add_block]; exact hp ad e)]⟩
theorem rd_set3 {w : World} {A : Option Addr} {l : List Int} {b : Nat} (h : Rd w A l) (hp : ∀ ad, A = some ad → ad.block ≠ b) (v0 v1 v2 : Value) :
    Rd (((w.setCell ⟨b, 0, none⟩ v0).setCell ⟨b, 1, none⟩ v1).setCell ⟨b, 2, none⟩ v2) A l := rd_set (rd_set (rd_set h hp v0) hp v1) hp v2
/-- A struct that is handed back from its cells. -/
theorem res3 {fn : Func} {p : Tmp} {tmps : Array Value} {w : World} {b : Nat} {v0 v1 v2 : Value} (hf : fn.results = #[.cell p 24]) (hp : tmps.getD p undef = .pointer (some ⟨b, 0, none⟩)) (h : Blk w b 24 [v0, v1, v2]) :
    (results fn tmps).run Tryd.prog w = .ok (.agg #[v0, v1, v2]) w := by
  have y0 := h.cell (i := 0) rfl
  have y1 := h.cell (i := 1) rfl
  have y2 := h.cell (i := 2) rfl
  have hp2 := hp
  rw [Array.getD_eq_getD_getElem?] at hp2
  simp [results, hf, hp2, go_sem, y0, y1, y2]
set_option maxHeartbeats 1000000 in
theorem make_calls (A : Option Addr) (c x : Nat) (n : Bool) (e : Int) (w : World) (h : Rd w A (digs x)) (hc : (digs x).length ≤ c) (hx : (digs x).length ≤ 4000) (he0 : -50000 ≤ e) (he1 : e ≤ 50000) :
    Calls Tryd.prog 37 #[.bool n, .slice A (digs x).length c, .int .i64 e] w
      fun r w' => ∃ A c, r = .returned (.agg #[.bool (dneg (sc n x e)), .slice A (digs (dm (sc n x e))).length c, .int .i64 (de (sc n x e))]) ∧ (digs (dm (sc n x e))).length ≤ c ∧ Rd w' A (digs (dm (sc n x e))) ∧ Bel w w' := by
  rcases Nat.eq_zero_or_pos x with h0 | h0
  · subst h0
    rw [sc_zero, show dm 0 = 0 from odd_zero, digs_zero, dneg_zero, de_zero]
    go_enter Tryd.func37, Tryd.ntmps37
    go_wp2
    refine bodyPost_ret (v := .agg #[.bool false, .slice none 0 0, .int .i64 0]) (by simp [results, Tryd.f37, go_sem]) rfl ⟨none, 0, rfl, Nat.le_refl _, Rd.nil _ _, (Bel.refl w).alloc _⟩
  · have hx0 : x ≠ 0 := by omega
    have E := Ho.mk (show dneg (sc n x e) = n ∧ dm (sc n x e) = odd x ∧ de (sc n x e) = e + tz x from ⟨sc_neg hx0, sc_m _ _ _, sc_e hx0 (by unfold K; omega)⟩)
    rw [E.out.1, E.out.2.1, E.out.2.2]
    have hlb : (((digs x).length : Int) == 0) = false := beq_eq_false_iff_ne.mpr (fun q => hx0 (digs_nil.1 (List.length_eq_zero_iff.1 (Int.ofNat.inj q))))
    obtain ⟨T, hT⟩ : ∃ T, T = tz x := ⟨_, rfl⟩
    have HT := Ho.mk hT
    have hT1 : T ≤ 96000 := by
      have h1 := odd_eq x
      have h2 : 2 ^ tz x ≤ x := by
        have hp := odd_pos hx0
        have := Nat.mul_le_mul_right (2 ^ tz x) (show 1 ≤ odd x by omega)
        omega
      have h3 := Nat.lt_of_le_of_lt h2 (blen_lt x)
      have h4 := (Nat.pow_lt_pow_iff_right (by decide : 1 < 2)).1 h3
      have h5 := blen_len x
      omega
    rw [← hT]
    have SH := Ho.mk (fun (k : Nat) (hk : k ≤ 100000) (W : World) (g : Bel w W) => R7.shr_calls A c x k (k : Int) W (h.bel g) hc (by omega) (Int.toNat_natCast k).symm hk)
    clear hT E h hx
    go_enter Tryd.func37, Tryd.ntmps37
    go_wp2
    have KB := Ho.mk (Blk.new w [.bool false, .slice none 0 0, .int .i64 0] 24)
    have HB0 := Ho.mk ((Bel.refl w).alloc (.cells #[.bool false, .slice none 0 0, .int .i64 0] 24))
    generalize w.alloc (.cells #[.bool false, .slice none 0 0, .int .i64 0] 24) = w0 at *
    have step : ∀ k, k ≤ T → x / 2 ^ k = odd x * 2 ^ (T - k) := by
      intro k hk
      conv => lhs; rw [← odd_eq x]
      rw [← HT.out, show T = (T - k) + k from by omega, Nat.pow_add, ← Nat.mul_assoc, Nat.mul_div_cancel _ (Nat.two_pow_pos k), Nat.add_sub_cancel]
    have ST := Ho.mk step
    clear step
    go_loopw [7] (fun v7 wr => ∃ k : Nat, k ≤ T ∧ v7 = .int .i64 k ∧ Ho (Bel w0 wr)) (fun v7 _ => T - (intOf v7).toNat)
    case atStart => exact ⟨0, Nat.zero_le _, rfl, ⟨Bel.refl _⟩⟩
    case round =>
      obtain ⟨k, hk, rfl, HW⟩ := hrel
      go_wp2_with fail
      (with_reducible refine (SH.out k (by omega) wr (HB0.out.trans HW.out)).mono ?_); rintro r w1 ⟨A1, c1, rfl, hc1, hr1, hb1⟩
      have HB1 := Ho.mk (HW.out.trans hb1)
      have hy : x / 2 ^ k ≠ 0 := by
        rw [ST.out k hk]; exact Nat.ne_of_gt (Nat.mul_pos (Nat.pos_of_ne_zero (odd_pos hx0)) (Nat.two_pow_pos _))
      have hl : 0 < (digs (x / 2 ^ k)).length := List.length_pos_iff.2 (fun q => hy (digs_nil.1 q))
      obtain ⟨ad, rfl, x0⟩ := hr1.cell 0 hl
      have x1 := x0
      rw [show ad.add 0 = ad from by unfold Addr.add; simp] at x1
      obtain ⟨z, hz⟩ : ∃ z, z = nth (digs (x / 2 ^ k)) 0 := ⟨_, rfl⟩
      rw [← hz] at x0 x1
      have hzm : z % 2 = ((odd x * 2 ^ (T - k) % 2 : Nat) : Int) := by
        rw [hz, nth0, ST.out k hk]; omega
      have hz0 : 0 ≤ z := by rw [hz, nth0]; omega
      have hz1 : z < 16777216 := by rw [hz, nth0]; omega
      clear hz hr1 hb1 hy hc1
      generalize digs (x / 2 ^ k) = l1 at *
      rcases Nat.lt_or_eq_of_le hk with hlt | heq
      · have hzb : (z % 2 == 0) = true := by
          rw [hzm, show T - k = (T - k - 1) + 1 from by omega, Nat.pow_succ, ← Nat.mul_assoc, Nat.mul_mod_left]; rfl
        clear hzm
        go_wp2
        go_roundw
        case rel => exact ⟨k + 1, by omega, by simp, HB1⟩
        case measure => simp [intOf]; omega
      · subst heq
        have hzb : (z % 2 == 0) = false := by
          rw [hzm, Nat.sub_self, Nat.pow_zero, Nat.mul_one, odd_odd hx0]; rfl
        clear hzm
        go_wp2_with fail
        (with_reducible refine (SH.out k (by omega) w1 (HB0.out.trans HB1.out)).mono ?_); rintro r w2 ⟨A2, c2, rfl, hc2, hr2, hb2⟩
        have hxo : x / 2 ^ k = odd x := by rw [ST.out k (Nat.le_refl _), Nat.sub_self, Nat.pow_zero, Nat.mul_one]
        rw [hxo] at hc2 hr2 ⊢
        have HB2 := Ho.mk (HB1.out.trans hb2)
        have KB2 := Ho.mk (KB.out.bel HB2.out)
        have y0 := KB2.out.cell (i := 0) rfl
        have y1 := KB2.out.cell (i := 1) rfl
        have y2 := KB2.out.cell (i := 2) rfl
        have z0 := KB2.out.free 0
        have z1 := KB2.out.free 1
        have z2 := KB2.out.free 2
        have HR2 := Ho.mk hr2
        clear hr2 hb2 hxo x0 x1
        go_wp2
        have KF := ((KB2.out.set 0 (.bool n)).set 1 (.slice A2 (digs (odd x)).length c2)).set 2 (.int .i64 (e + (k : Int)))
        have RF := rd_set3 HR2.out (fun ad2 he => by subst he; exact rd_far KB2.out (fun z => by simp) HR2.out (odd_pos hx0)) (.bool n) (.slice A2 (digs (odd x)).length c2) (.int .i64 (e + (k : Int)))
        have BF := (((HB0.out.trans HB2.out).out.setCell (p := ⟨w.heap.size, 0, none⟩) (Nat.le_refl _) (.bool n)).setCell (p := ⟨w.heap.size, 1, none⟩) (Nat.le_refl _) (.slice A2 (digs (odd x)).length c2)).setCell (p := ⟨w.heap.size, 2, none⟩) (Nat.le_refl _) (.int .i64 (e + (k : Int)))
        clear y0 y1 y2 z0 z1 z2
        generalize ((w2.setCell ⟨w.heap.size, 0, none⟩ (.bool n)).setCell ⟨w.heap.size, 1, none⟩ (.slice A2 (digs (odd x)).length c2)).setCell ⟨w.heap.size, 2, none⟩ (.int .i64 (e + (k : Int))) = w3 at *
        exact bodyPost_ret (v := .agg #[.bool n, .slice A2 (digs (odd x)).length c2, .int .i64 (e + (k : Int))]) (res3 (fn := Tryd.f37) rfl rfl KF) rfl ⟨A2, c2, rfl, hc2, RF, ⟨BF⟩⟩
end Go.Proofs.YtnmjnjhijcnbcaaDoor.D2
