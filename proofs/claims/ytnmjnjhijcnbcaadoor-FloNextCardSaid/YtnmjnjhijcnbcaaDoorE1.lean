/-
  The walks of package dya: Make.
-/
import Derived.Test.YtnmjnjhijcnbcaaDoorDt
import Derived.Test.YtnmjnjhijcnbcaaDoorN7
import Derived.Test.YtnmjnjhijcnbcaaDoorNa
import Derived.Test.YtnmjnjhijcnbcaaDoorN9
import Derived.Test.YtnmjnjhijcnbcaaDoorN8
set_option linter.unusedVariables false
set_option linter.unusedSimpArgs false
namespace Go.Proofs.YtnmjnjhijcnbcaaDoor.E1
open Go Go.RowKit Go.Proofs.YtnmjnjhijcnbcaaDoor Go.Proofs.YtnmjnjhijcnbcaaDoor.Ow Go.Proofs.YtnmjnjhijcnbcaaDoor.Pl Go.Proofs.YtnmjnjhijcnbcaaDoor.Dp Go.Proofs.YtnmjnjhijcnbcaaDoor.Dt Go.Proofs.YtnmjnjhijcnbcaaDoor.D3

theorem nth_digs (j : Nat) : ∀ x : Nat, nth (digs x) j = ((x / 16777216 ^ j % 16777216 : Nat) : Int) := by
  induction j with
  | zero => intro x; rw [D2.nth0, Nat.pow_zero, Nat.div_one]
  | succ j ih =>
    intro x
    by_cases h : x = 0
    · subst h; rw [digs_zero]; simp [nth]
    · rw [digs_pos h, nth_cons, ih, Nat.div_div_eq_div_mul, Nat.pow_succ, Nat.mul_comm]
theorem tz_mod {y k : Nat} (h : y % 2 ^ k ≠ 0) : tz y = tz (y % 2 ^ k) := by
  have hz := odd_eq (y % 2 ^ k)
  have hlt : tz (y % 2 ^ k) < k := by
    have h1 := Nat.mod_lt y (Nat.two_pow_pos k)
    have hp := odd_pos h
    have h2 := Nat.mul_le_mul_right (2 ^ tz (y % 2 ^ k)) (show 1 ≤ odd (y % 2 ^ k) by omega)
    exact (Nat.pow_lt_pow_iff_right (by decide : 1 < 2)).1 (show 2 ^ tz (y % 2 ^ k) < 2 ^ k by omega)
  have ho := odd_odd h
  obtain ⟨d, hd⟩ : ∃ d, k = tz (y % 2 ^ k) + (d + 1) := ⟨k - tz (y % 2 ^ k) - 1, by omega⟩
  generalize tz (y % 2 ^ k) = t at *
  generalize odd (y % 2 ^ k) = m at *
  have e : y = (2 ^ (d + 1) * (y / 2 ^ k) + m) * 2 ^ t := by
    rw [Nat.add_mul, hz, Nat.mul_right_comm, ← Nat.pow_add, Nat.add_comm (d + 1) t, ← hd]
    exact (Nat.div_add_mod y (2 ^ k)).symm
  rw [e]
  refine (odd_of ?_).2
  rw [Nat.pow_succ, Nat.mul_assoc, Nat.mul_left_comm]
  omega
theorem tz_limb (i : Nat) : ∀ x : Nat, (∀ j, j < i → nth (digs x) j = 0) → nth (digs x) i ≠ 0 → tz x = 24 * i + tz (nth (digs x) i).toNat := by
  induction i with
  | zero =>
    intro x _ h
    rw [D2.nth0] at h ⊢
    have := tz_mod (y := x) (k := 24) (by omega)
    rw [this, Int.toNat_natCast, show (2 : Nat) ^ 24 = 16777216 from rfl]; omega
  | succ i ih =>
    intro x hz h
    have h0 := hz 0 (by omega)
    rw [D2.nth0] at h0
    have hx : x ≠ 0 := fun e => by subst e; rw [digs_zero] at h; exact h rfl
    have hx2 : x / 16777216 ≠ 0 := by omega
    rw [digs_pos hx, nth_cons] at h ⊢
    have := ih (x / 16777216) (fun j hj => by have := hz (j + 1) (by omega); rwa [digs_pos hx, nth_cons] at this) h
    have e := tz_shift 24 hx2
    rw [show x / 16777216 * 2 ^ 24 = x from by omega] at e
    omega

theorem tz_callsI (z : Int) (w : World) (h0 : 0 < z) (h : z < 16777216) (T : Tab w) : Calls Tryd.prog 70 #[.int .u64 z] w fun e w' => e = .returned (.int .i64 (tz z.toNat)) ∧ w = w' := by
  have := tz_calls z.toNat w (by omega) (by omega) T
  rwa [Int.toNat_of_nonneg (by omega)] at this
theorem gives_end2 {fn : Func} {p : Tmp} {tmps : Array Value} {w w2 : World} {v : Int} {b c2 m : Nat} {n : Bool} {e : Int} {A2 : Option Addr} (e1 : dneg v = n) (e2 : dm v = m) (e3 : de v = e) (hf : fn.results = #[.cell p 24]) (hp : tmps.getD p undef = .pointer (some ⟨b, 0, none⟩))
    (hB : Bel w w2) (hb : w.heap.size ≤ b) (KB : Blk w2 b 24 [.bool false, .slice none 0 0, .int .i64 0]) (hr : Rd w2 A2 (digs m)) (hc : (digs m).length ≤ c2) :
    bodyPost Tryd.prog fn (Gives w v) .ret { tmps := tmps, defers := [] }
      (((w2.setCell ⟨b, 0, none⟩ (.bool n)).setCell ⟨b, 1, none⟩ (.slice A2 (digs m).length c2)).setCell ⟨b, 2, none⟩ (.int .i64 e)) := by
  subst e1; subst e2; subst e3
  exact gives_end hf hp hB hb KB hr hc
theorem isNz_calls (x : Int) (w : World) (b : Bool) (hb : (x == 0) = !b) : Calls Tryd.prog 69 #[.int .i64 x] w fun e w' => e = .returned (.bool b) ∧ w = w' := by
  cases b
  · obtain rfl : x = 0 := by simpa using hb
    go_enter Tryd.func69, Tryd.ntmps69
    go_wp2
    go_ret
    exact ⟨rfl, rfl⟩
  · have hb' : (x == 0) = false := by simpa using hb
    have hb2 : (x != 0) = true := by rw [bne, hb']; rfl
    go_enter Tryd.func69, Tryd.ntmps69
    go_wp2
    go_ret
    exact ⟨rfl, rfl⟩
/-- The first limb that is not 0. -/
def First (l : List Int) (i : Nat) : Prop := i < l.length ∧ (∀ j, j < i → nth l j = 0) ∧ nth l i ≠ 0
theorem index0_calls (A : Option Addr) (c : Nat) (w : World) :
    Calls Tryd.prog 68 #[.slice A 0 c, .func (.func 69) #[] #[]] w fun e w' => e = .returned (.int .i64 (-1)) ∧ w = w' := by
  go_enter Tryd.func68, Tryd.ntmps68
  go_wp2_with fail
  go_loop [8] (fun v => v = .int .i64 0) (fun v => 0)
  case atStart => rfl
  case round =>
    subst hrel
    go_wp2
    go_ret
    exact ⟨rfl, rfl⟩
def FoundNz (l : List Int) (w : World) (e : Ending) (w' : World) : Prop := ∃ i : Nat, e = .returned (.int .i64 i) ∧ First l i ∧ w = w'
theorem index_calls (A : Option Addr) (c i0 : Nat) (l : List Int) (w : World) (h : Rd w A l) (hF : First l i0) :
    Calls Tryd.prog 68 #[.slice A l.length c, .func (.func 69) #[] #[]] w (FoundNz l w) := by
  have hm := h.max
  have HF := Ho.mk hF
  have hF1 := hF.1
  clear hF
  go_enter Tryd.func68, Tryd.ntmps68
  go_wp2
  go_loop [8] (fun v => ∃ i : Nat, i ≤ i0 ∧ v = .int .i64 i) (fun v => i0 - (intOf v).toNat)
  case atStart => exact ⟨0, by omega, rfl⟩
  case round =>
    obtain ⟨i, hi, rfl⟩ := hrel
    have hlt : i < l.length := by omega
    obtain ⟨ad, rfl, x0⟩ := h.cell i hlt
    rcases Nat.lt_or_eq_of_le hi with h1 | h1
    · have hz : Ho ((nth l i == 0) = !false) := ⟨by rw [HF.out.2.1 i h1]; rfl⟩
      go_wp2_with (go_at_call 69; (with_reducible refine (isNz_calls _ _ false hz.out).mono ?_); rintro e w' ⟨rfl, rfl⟩)
      go_round
      case rel => exact ⟨i + 1, by omega, by go_num⟩
      case measure => simp [intOf]; omega
    · subst h1
      have hz : Ho ((nth l i == 0) = !true) := ⟨beq_eq_false_iff_ne.mpr HF.out.2.2⟩
      go_wp2_with (go_at_call 69; (with_reducible refine (isNz_calls _ _ true hz.out).mono ?_); rintro e w' ⟨rfl, rfl⟩)
      go_ret
      exact ⟨i, rfl, HF.out, rfl⟩
theorem first_ex {l : List Int} (h : IsN l) (hl : l ≠ []) : ∃ i, First l i := by
  have hex : ∃ i, i < l.length ∧ nth l i ≠ 0 := by
    refine ⟨l.length - 1, by have := List.length_pos_iff.2 hl; omega, ?_⟩
    have h2 := h.2
    rcases List.eq_nil_or_concat l with rfl | ⟨r, x, rfl⟩
    · exact absurd rfl hl
    · simpa [nth] using h2
  obtain ⟨n, hn⟩ := hex
  induction n using Nat.strongRecOn with
  | _ n ih =>
    by_cases hz : ∀ j, j < n → nth l j = 0
    · exact ⟨n, hn.1, hz, hn.2⟩
    · have hz' : ∃ j, j < n ∧ nth l j ≠ 0 := by
        apply Classical.byContradiction
        intro hc
        exact hz (fun j hj => Classical.byContradiction (fun hne => hc ⟨j, hj, hne⟩))
      obtain ⟨j, hj, hne⟩ := hz'
      exact ih j hj ⟨by omega, hne⟩

set_option maxRecDepth 100000 in
set_option maxHeartbeats 1000000 in
theorem make_calls (A : Option Addr) (c x : Nat) (n : Bool) (e : Int) (w : World) (T : Tab w) (h : Rd w A (digs x)) (hc : (digs x).length ≤ c) (hx : (digs x).length ≤ 4000) (he0 : -50000 ≤ e) (he1 : e ≤ 50000) :
    Calls Tryd.prog 36 #[.bool n, .slice A (digs x).length c, .int .i64 e] w (Gives w (sc n x e)) := by
  rcases Nat.eq_zero_or_pos x with h0 | h0
  · subst h0
    rw [sc_zero, digs_zero]
    go_enter Tryd.func36, Tryd.ntmps36
    go_wp2_with fail
    (with_reducible refine (index0_calls _ _ _).mono ?_); rintro e w' ⟨rfl, rfl⟩
    go_wp2
    refine bodyPost_ret (v := .agg #[.bool false, .slice none 0 0, .int .i64 0]) (by simp [results, Tryd.f36, go_sem]) rfl ⟨none, 0, by rw [show dm 0 = 0 from odd_zero, digs_zero]; rfl, ?_, ?_, ?_⟩
    · rw [show dm 0 = 0 from odd_zero, digs_zero]; exact Nat.le_refl _
    · rw [show dm 0 = 0 from odd_zero, digs_zero]; exact Rd.nil _ _
    · exact (Bel.refl w).alloc _
  · have hx0 : x ≠ 0 := by omega
    obtain ⟨i0, hF⟩ := first_ex (digs_can x) (fun q => hx0 (digs_nil.1 q))
    have IX := Ho.mk (fun (W : World) (g : Bel w W) => index_calls A c i0 (digs x) W (h.bel g) hF)
    have E := Ho.mk (show dneg (sc n x e) = n ∧ dm (sc n x e) = odd x ∧ de (sc n x e) = e + tz x from ⟨sc_neg hx0, sc_m _ _ _, sc_e hx0 (by unfold K; omega)⟩)
    have HC := Ho.mk hc
    have H := Ho.mk h
    have hl := h.max
    have hT1 : tz x ≤ 96000 := by
      have h1 := odd_eq x
      have h2 : 2 ^ tz x ≤ x := by
        have hp := odd_pos hx0
        have := Nat.mul_le_mul_right (2 ^ tz x) (show 1 ≤ odd x by omega)
        omega
      have h3 := Nat.lt_of_le_of_lt h2 (blen_lt x)
      have h4 := (Nat.pow_lt_pow_iff_right (by decide : 1 < 2)).1 h3
      have h5 := D2.blen_len x
      omega
    have SH := Ho.mk (fun (W : World) (g : Bel w W) => Na.shr_calls A c x (tz x) (tz x : Int) W (h.bel g) hc (by omega) (Int.toNat_natCast _).symm (by omega))
    clear hc h hF
    go_enter Tryd.func36, Tryd.ntmps36
    go_wp2_with fail
    have KB := Ho.mk (Blk.new w [.bool false, .slice none 0 0, .int .i64 0] 24)
    have HB := Ho.mk ((Bel.refl w).alloc (.cells #[.bool false, .slice none 0 0, .int .i64 0] 24))
    (with_reducible refine (IX.out _ HB.out).mono ?_); rintro r w1 ⟨i, rfl, hFi, rfl⟩
    have HT := Ho.mk (tz_limb i x hFi.2.1 hFi.2.2)
    obtain ⟨ad, rfl, x0⟩ := (H.out.bel HB.out).cell i hFi.1
    have hi1 := hFi.1
    obtain ⟨z, hz⟩ : ∃ z, z = nth (digs x) i := ⟨_, rfl⟩
    have hz0 := (digs_can x).1.nth i
    have hz2 := hFi.2.2
    rw [← hz] at HT x0 hz0 hz2
    obtain ⟨hz0, hz1⟩ := hz0
    have TZ := Ho.mk (fun (W : World) (g : Bel w W) => tz_callsI z W (by omega) (by omega) (T.bel g))
    have ht24 := tz_small (x := z.toNat) (by omega) (by omega)
    clear hFi hz
    go_wp2_with fail
    (with_reducible refine (TZ.out _ HB.out).mono ?_); rintro r w1 ⟨rfl, rfl⟩
    have hk : (i : Int) * 24 + (tz z.toNat : Int) = (tz x : Int) := by rw [HT.out]; omega
    go_wp2_with fail
    (with_reducible refine (SH.out _ HB.out).mono ?_); rintro r w2 ⟨A2, c2, rfl, hc2, hr2, hb2⟩
    have hxo : x / 2 ^ tz x = odd x := rfl
    rw [hxo] at hc2 hr2 ⊢
    have HB2 := Ho.mk (HB.out.trans hb2)
    have KB2 := Ho.mk (KB.out.bel hb2)
    have y0 := KB2.out.cell (i := 0) rfl
    have y1 := KB2.out.cell (i := 1) rfl
    have y2 := KB2.out.cell (i := 2) rfl
    have z0 := KB2.out.free 0
    have z1 := KB2.out.free 1
    have z2 := KB2.out.free 2
    have HR2 := Ho.mk hr2
    clear hr2 hb2 hxo x0 hk
    go_wp2
    exact gives_end2 (fn := Tryd.f36) (v := sc n x e) E.out.1 E.out.2.1 E.out.2.2 rfl rfl HB2.out (by omega) KB2.out HR2.out hc2
end Go.Proofs.YtnmjnjhijcnbcaaDoor.E1
