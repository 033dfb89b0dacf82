/-
  Joined, of what this claim leans on: Kf, Y9, Li, Ln.
-/
import Derived.Test.YtalbgklfhabnkaaGreatDoorJDctoneScale1
set_option linter.unusedVariables false
set_option linter.unusedSimpArgs false
set_option maxRecDepth 100000
set_option maxHeartbeats 16000000
namespace Go.Proofs.YtalbgklfhabnkaaGreatDoor
namespace Kf
open Ieee Go Go.RowKit Go.Proofs Go.Proofs.YtalbgklfhabnkaaGreatDoor Ow Dt Dp Gp F1 I0 U0 W0 S3 S4 S6 P0 P3 P4 M0 M1 M3 W4 W5 V2 Y3 Yh Y1 Y4 Y6 Ka Kb Kc Kd Ke Le Z4
open Go.Proofs.YtalbgklfhabnkaaGreatDoor.Pg (In)
attribute [local go_sem ↓] Go.wp_at_zero Go.wp_at_succ
def pS (s : Bool) (n : Nat) : Nat := if s then Nat.log2 (n + 1) else Nat.log2 (n - 1)
def d1R (s : Bool) (X : List Nat) : List Nat := if okS s X.length then (if s then dst1N (pS s X.length) X else dct1N (pS s X.length) X) else []
def d1E (s : Bool) (X : List Nat) : Int := if okS s X.length then 0 else 2
structure Part (w w' : World) (o : Nat) (A : Option Addr) (Z : List Nat) : Prop where
 out : Z.length = 0 ∨ ∃ g Y, A = some ⟨g, o, none⟩ ∧ Fz w' g Y ∧ w.heap.size ≤ g ∧ Y.length = o + Z.length ∧ ∀ k, k < Z.length → nthN Y (o + k) = nthN Z k
def MakesPE (w : World) (o : Nat) (Z : List Nat) (z : Int) (e : Ending) (w' : World) : Prop := ∃ A c, e = .returned (.tuple #[.slice A Z.length c, .int .i64 z]) ∧ In w' (.slice A Z.length c) Z ∧ Part w w' o A Z ∧ Bel w w'
theorem okS_c {n : Nat} (h : okS false n = true) : n = 2 ^ pS false n + 1 ∧ 1 ≤ pS false n ∧ n ≤ 1025 := by
 obtain ⟨h1, h2, h3⟩ := okR_pow (show okR (n - 1) = true from h)
 have := Nat.two_pow_pos (Nat.log2 (n - 1))
 simp only [pS, Bool.false_eq_true, if_false]
 refine ⟨?_, h2, by omega⟩
 by_cases h0 : n = 0
 ·subst h0; exact absurd h (by decide)
 ·omega
theorem okS_s {n : Nat} (h : okS true n = true) : n + 1 = 2 ^ pS true n ∧ 1 ≤ pS true n ∧ n ≤ 1023 := by
 obtain ⟨h1, h2, h3⟩ := okR_pow (show okR (n + 1) = true from h)
 exact ⟨h1, h2, by omega⟩
theorem okR_two {p : Nat} (h : 1 ≤ p) (h2 : p ≤ 10) : okR (2 ^ p) = true := by
 unfold okR logI
 have := Nat.two_pow_pos p
 have : 2 ^ p ≤ 2 ^ 10 := Nat.pow_le_pow_right (by omega) h2
 rw [Nat.log2_two_pow, if_pos ⟨by omega, rfl, by omega⟩]
 exact decide_eq_true (by omega)
def upM (h o i : Nat) (Z : List Nat) : List Nat := (List.range Z.length).map fun k => if o ≤ k ∧ k < o + i then fmul (nthN Z k) h else nthN Z k
theorem upM_len (h o i : Nat) (Z : List Nat) : (upM h o i Z).length = Z.length := by simp [upM]
theorem upM_at {h o i k : Nat} {Z : List Nat} (hk : k < Z.length) : nthN (upM h o i Z) k = if o ≤ k ∧ k < o + i then fmul (nthN Z k) h else nthN Z k := nth_map _ hk
theorem upM_zero (h o : Nat) (Z : List Nat) : upM h o 0 Z = Z := by
 refine List.ext_getElem (by simp [upM]) fun i h1 h2 => ?_
 simp only [upM, List.getElem_map, List.getElem_range]
 rw [if_neg (by omega)]; exact nthN_lt h2
theorem upM_set {h o i : Nat} {Z : List Nat} (hi : o + i < Z.length) : (upM h o i Z).set (o + i) (fmul (nthN Z (o + i)) h) = upM h o (i + 1) Z := by
 refine List.ext_getElem (by simp [upM]) fun k h1 h2 => ?_
 rw [upM_len] at h2
 rw [List.getElem_set]
 simp only [upM, List.getElem_map, List.getElem_range]
 by_cases e : o + i = k
 ·subst e; rw [if_pos rfl, if_pos ⟨by omega, by omega⟩]
 ·rw [if_neg e]
  by_cases q : o ≤ k ∧ k < o + i
  ·rw [if_pos q, if_pos ⟨q.1, by omega⟩]
  ·rw [if_neg q, if_neg (by omega)]
theorem nthN_app' (a b : List Nat) (i : Nat) : nthN (a ++ b) i = if i < a.length then nthN a i else nthN b (i - a.length) := nthG_app opsN a b i
theorem half_ok : (4602678819172646912 : Nat) < 2 * sgnW ∧ cn 4602678819172646912 = halfW ∧ (13826050856027422720 : Nat) < 2 * sgnW ∧ cn 13826050856027422720 = fng halfW := by decide +kernel
theorem dMade0c {A : Option Addr} {c n : Nat} (w : World) (T : Tab w) (hn : n ≤ 129) (hok : okS false n = false) :
  Calls Tryz.prog 49 #[.iface 67 (.agg #[]), .slice A n c] w (fun e w' => e = .returned (.tuple #[.slice none 0 0, .int .i64 2]) ∧ Bel w w') := by
 have F := Ho.mk (dFitsE (s := false) w hn T)
 rw [hok] at F
 simp only [kS, Bool.false_eq_true, if_false, if_true] at F
 clear T hok
 have ha : ∀ w, (Instr.typeAssert (.iface 67 (.agg #[])) 113 67 true).run Tryz.prog w = .ok (.tuple #[.agg #[], .bool true]) w := fun _ => by kernel_rfl
 go_enter Tryz.func49, Tryz.ntmps49
 go_wp2_with fail
 (with_reducible refine F.out.mono ?_); rintro e w1 ⟨rfl, b⟩
 go_wp2
 go_ret2
 exact ⟨rfl, b⟩
theorem dMade1c {ad : Addr} {c n : Nat} {X : List Nat} (w : World) (T : Tab w) (hx : In w (.slice (some ad) n c) X) (hX : X.length = n) (hn : n ≤ 64) (hok : okS false n = true) (hc : n ≤ c) (hc2 : c ≤ 9223372036854775807) :
  Calls Tryz.prog 49 #[.iface 67 (.agg #[]), .slice (some ad) n c] w (MakesPE w 0 (d1R false X) 0) := by
 obtain ⟨ok1, ok2, ok3⟩ := okS_c hok
 have F := dFitsE (s := false) w (show n ≤ 129 by omega) T
 rw [hok] at F
 simp only [kS, Bool.false_eq_true, if_false, if_true] at F
 replace F := Ho.mk F
 obtain ⟨p, hp⟩ : ∃ p, p = pS false n := ⟨_, rfl⟩
 rw [← hp] at ok1 ok2
 have p6 : p ≤ 6 := by
  rcases Nat.lt_or_ge p 7 with q | q
  ·omega
  ·have := Nat.pow_le_pow_right (n := 2) (by omega) q
   omega
 have h64 : 2 ^ p ≤ 64 := Nat.pow_le_pow_right (n := 2) (by omega) p6
 have hq2 : 2 ≤ 2 ^ p := by rw [two_half ok2]; have := Nat.two_pow_pos (p - 1); omega
 have hp1 : 2 ^ (p + 1) = 2 * 2 ^ p := two_pow p
 obtain ⟨M, hM⟩ : ∃ M, M = mirN false X := ⟨_, rfl⟩
 have lM : M.length = 2 ^ (p + 1) := by rw [hM, mirN_len]; omega
 have okM : okR M.length = true := by rw [lM]; exact okR_two (by omega) (by omega)
 obtain ⟨R, hR⟩ : ∃ R, R = rfR M := ⟨_, rfl⟩
 have eR : R = rfftN (p + 1) M := by rw [hR]; unfold rfR; rw [okM, lM, Nat.log2_two_pow]; rfl
 have lR : R.length = 2 ^ (p + 1) := by rw [eR, rfftN_len]
 have eF : 0 = errF M := by unfold errF; rw [okM]; rfl
 obtain ⟨Z, hZ⟩ : ∃ Z, Z = M2.evenG opsN R ++ [nthN R 1] := ⟨_, rfl⟩
 obtain ⟨D, hD⟩ : ∃ D, D = d1R false X := ⟨_, rfl⟩
 have lD : D.length = n := by rw [hD]; unfold d1R; rw [hX, hok, ← hp]; simp [dct1N_len]; omega
 have lZ : Z.length = n + 0 := by rw [hZ, List.length_append, M2.evenG_len, lR]; simp; omega
 have dZ : ∀ j, j < n → fmul (nthN Z (0 + j)) halfW = nthN D j := fun j hj => by
  rw [hD]; unfold d1R; rw [hX, hok, ← hp]
  simp only [if_true, Bool.false_eq_true, if_false]
  rw [show nthN (dct1N p X) j = fmul (nthN (rfftN (p + 1) (mirN false X)) (if j < 2 ^ p then 2 * j else 1)) halfW from nth_map _ (by omega), ← hM, ← eR, hZ, nthN_app', M2.evenG_len, lR, Nat.zero_add]
  by_cases q : j < 2 ^ p
  ·rw [if_pos (by omega), if_pos q]; congr 1; exact nth_map _ (by rw [lR]; omega)
  ·rw [if_neg (by omega), if_neg q]; congr 1; obtain rfl : j = 2 ^ p := by omega
   rw [show 2 ^ p - (2 ^ (p + 1) + 1) / 2 = 0 by omega]; rfl
 have CM := Ho.mk (fun w' (b : Bel w w') => dMirC w' (hx.bel b) hX (by omega) (by omega) hc hc2)
 rw [← hM] at CM
 have LM := Ho.mk (And.intro lM lR)
 have L128 := Ho.mk (show M.length ≤ 128 ∧ 0 < R.length by rw [lM, lR, hp1]; omega)
 have TT := Ho.mk T
 have ER := Ho.mk (And.intro hR eF)
 have LD := Ho.mk lD
 have LZ := Ho.mk lZ
 have DZ := Ho.mk dZ
 have CT := Ho.mk (fun w' {ad : Addr} {c : Nat} (h : In w' (.slice (some ad) R.length c) R) => dTakC (n := n) w' h (by omega) (by omega) (by omega))
 rw [← hZ] at CT
 rw [← hD]
 have hn2 : 0 < n := by omega
 clear T hok ok1 ok2 ok3 hp p6 h64 hq2 hp1 lM okM eR lR eF lD lZ dZ hx hX hM hR hZ hD hc hc2
 have ha : ∀ w, (Instr.typeAssert (.iface 67 (.agg #[])) 113 67 true).run Tryz.prog w = .ok (.tuple #[.agg #[], .bool true]) w := fun _ => by kernel_rfl
 have hi1 : ∀ w, (method 405 67 (.agg #[]) "overtone/dctone.mirrored").run Tryz.prog w = .ok (253, .agg #[]) w := fun _ => by kernel_rfl
 have hi2 : ∀ w, (method 405 67 (.agg #[]) "overtone/dctone.taken").run Tryz.prog w = .ok (254, .agg #[]) w := fun _ => by kernel_rfl
 go_enter Tryz.func49, Tryz.ntmps49
 go_wp2_with fail
 (with_reducible refine F.out.mono ?_); rintro e w1 ⟨rfl, b1⟩
 have B1 := Ho.mk b1
 clear F b1
 go_wp2_with fail
 (with_reducible refine (CM.out _ B1.out).mono ?_); rintro e w2 ⟨A1, c1, rfl, r1, b2⟩
 have I1 := Ho.mk (Pg.RowF.inn r1 (by have := L128.out.1; omega))
 have B2 := Ho.mk (B1.out.trans b2)
 clear CM r1 b2 B1
 go_wp2_with fail
 (with_reducible refine (pRfft (TT.out.bel B2.out) I1.out L128.out.1 ER.out.1 ER.out.2).mono ?_); rintro e w3 ⟨A2, c2, rfl, r2, b3⟩
 obtain ⟨g2, c3, e, k1, k2, k3, k4⟩ := r2.at_ L128.out.2
 cases e
 have I2 := Ho.mk (Pg.RowF.inn r2 (by have := LM.out; have := L128.out.1; omega))
 have B3 := Ho.mk (B2.out.trans b3)
 clear I1 r2 k1 k2 k3 k4 b3 B2
 go_wp2_with fail
 (with_reducible refine (CT.out _ I2.out).mono ?_); rintro e w4 ⟨g, c4, rfl, h1, h2, hg, hf, b4⟩
 have H : Ho (Hp w w4 [.row g Z]) := ⟨⟨B3.out.trans b4, fun x hx => by simp at hx; subst hx; exact Nat.le_trans B3.out.size hg, by simp, fun x hx => by simp at hx; subst hx; exact hf⟩⟩
 clear CT I2 B3 hg hf b4 hi1 hi2
 go_wp2_with fail
 obtain ⟨wx, rfl⟩ : ∃ wx : World, wx = w4 := ⟨_, rfl⟩
 go_loopw [39] (fun v wr => ∃ (i : Nat), i ≤ n ∧ v = .int .i64 i ∧ Ho (Hp w wr [.row g (upM halfW 0 i Z)])) (fun v _ => n - (intOf v).toNat)
 case atStart => exact ⟨0, Nat.zero_le _, rfl, by rw [upM_zero]; exact H⟩
 case round =>
  clear H
  obtain ⟨i, hi, rfl, H⟩ := hrel
  rcases Nat.lt_or_ge i n with hlt | hge
  ·obtain ⟨r, y0, l0, c0⟩ := (H.out.row 0 rfl).at_ (i := i) (by rw [upM_len, LZ.out]; omega)
   have C0 := Ho.mk (And.intro l0 c0)
   clear l0 c0
   go_wp2_with fail
   (with_reducible refine (dOMul wr C0.out.1 half_ok.1).mono ?_); rintro e w5 ⟨q, rfl, l5, c5, b5⟩
   replace H := Ho.mk (H.out.grow b5)
   have C5 := Ho.mk (And.intro l5 (show cn q = fmul (nthN Z (0 + i)) halfW by rw [c5, C0.out.2, half_ok.2.1, upM_at (by rw [LZ.out]; omega), if_neg (by omega), Nat.zero_add]))
   clear y0 C0 l5 c5 b5
   obtain ⟨_, y0, _, _⟩ := (H.out.row 0 rfl).at_ (i := i) (by rw [upM_len, LZ.out]; omega)
   have x0 := (H.out.row 0 rfl).free (i)
   go_wp2_with fail
   clear y0 x0
   replace H := Ho.mk (H.out.setF 0 rfl (i) C5.out.1 C5.out.2)
   simp only [List.set_cons_zero, List.set_cons_succ] at H
   generalize World.setCell w5 ⟨g, i, none⟩ (.float .f64 q) = w6 at *
   have eU := upM_set (h := halfW) (o := 0) (i := i) (Z := Z) (by rw [LZ.out]; omega)
   rw [Nat.zero_add] at eU
   rw [Nat.zero_add, eU] at H
   clear eU
   go_roundw
   case rel => exact ⟨i + 1, by omega, by simp, H⟩
   case measure => simp [intOf]; omega
  ·obtain rfl : i = n := by omega
   go_wp2
   go_ret2
   have P : Part w wr 0 (some ⟨g, 0, none⟩) D := ⟨.inr ⟨g, _, rfl, H.out.row 0 rfl, H.out.ge _ (List.mem_cons_self ..), by rw [upM_len, LZ.out, LD.out]; omega, fun j hj => by
    rw [LD.out] at hj
    rw [upM_at (by rw [LZ.out]; omega), if_pos (by omega), DZ.out j hj]⟩⟩
   refine ⟨_, c4, by rw [LD.out]; rfl, ?_, P, H.out.bel⟩
   have I := fz_in (n := i + 0) (c := i + 0) (H.out.row 0 rfl) (by rw [upM_len, LZ.out]) (by omega) (Nat.le_refl _) (by omega)
   have J := in_part (c' := c4) (i := 0) (Y := D) I (by rw [upM_len, LZ.out]) LD.out (by omega) h1 h2 (fun j hj => by rw [upM_at (by rw [LZ.out]; omega), if_pos (by omega), DZ.out j hj])
   rw [LD.out]
   exact J
theorem dDct1 {A : Option Addr} {c n : Nat} {X : List Nat} {w : World} (T : Tab w) (hx : In w (.slice A n c) X) (hl : X.length ≤ 64) {Z : List Nat} {z : Int} (h1 : Z = d1R false X) (h2 : z = d1E false X) :
  Calls Tryz.prog 23 #[.slice A n c] w (MakesPE w 0 Z z) := by
 obtain rfl : X.length = n := by obtain ⟨A1, c1, e1, _⟩ := hx.out; cases e1; rfl
 obtain ⟨A1, c1, e1, k1, k2, k3, k4⟩ := hx.out
 cases e1
 have CM : Ho (Calls Tryz.prog 49 #[.iface 67 (.agg #[]), .slice A X.length c] w (MakesPE w 0 Z z)) := by
  cases hok : okS false X.length with
  | false =>
   have e1 : Z = [] := by rw [h1]; unfold d1R; rw [hok]; rfl
   have e2 : z = 2 := by rw [h2]; unfold d1E; rw [hok]; rfl
   rw [e1, e2]
   refine ⟨(dMade0c w T (by omega) hok).mono ?_⟩
   rintro e w' ⟨rfl, b⟩
   exact ⟨none, 0, rfl, ⟨none, 0, rfl, Nat.le_refl _, by decide, Fr.nil _ _, fun _ => rfl⟩, ⟨.inl rfl⟩, b⟩
  | true =>
   have e2 : z = 0 := by rw [h2]; unfold d1E; rw [hok]; rfl
   rw [h1, e2]
   have h0 : 0 < X.length := by
    have := okS_c hok
    have := Nat.two_pow_pos (pS false X.length)
    by_cases q : X.length = 0
    ·rw [q] at hok; exact absurd hok (by decide)
    ·omega
   cases A with
   | none => have := k4 rfl; omega
   | some ad => exact ⟨dMade1c w T hx rfl hl hok k1 k2⟩
 clear T hx hl h1 h2 k1 k2 k3 k4
 go_enter Tryz.func23, Tryz.ntmps23
 go_wp2_with fail
 (with_reducible refine CM.out.mono ?_); rintro e w1 ⟨A2, c2, rfl, i, p, b⟩
 have I := Ho.mk (And.intro i (And.intro p b))
 clear CM i p b
 go_wp2
 go_ret2
 exact ⟨A2, c2, rfl, I.out.1, I.out.2.1, I.out.2.2⟩
theorem dMade0s {A : Option Addr} {c n : Nat} (w : World) (T : Tab w) (hn : n ≤ 129) (hok : okS true n = false) :
  Calls Tryz.prog 49 #[.iface 68 (.agg #[]), .slice A n c] w (fun e w' => e = .returned (.tuple #[.slice none 0 0, .int .i64 2]) ∧ Bel w w') := by
 have F := Ho.mk (dFitsE (s := true) w hn T)
 rw [hok] at F
 simp only [kS, Bool.false_eq_true, if_false, if_true] at F
 clear T hok
 have ha : ∀ w, (Instr.typeAssert (.iface 68 (.agg #[])) 113 67 true).run Tryz.prog w = .ok (.tuple #[.agg #[], .bool false]) w := fun _ => by kernel_rfl
 have hb : ∀ w, (Instr.typeAssert (.iface 68 (.agg #[])) 113 68 true).run Tryz.prog w = .ok (.tuple #[.agg #[], .bool true]) w := fun _ => by kernel_rfl
 go_enter Tryz.func49, Tryz.ntmps49
 go_wp2_with fail
 (with_reducible refine F.out.mono ?_); rintro e w1 ⟨rfl, b⟩
 go_wp2
 go_ret2
 exact ⟨rfl, b⟩
theorem dMade1s {ad : Addr} {c n : Nat} {X : List Nat} (w : World) (T : Tab w) (hx : In w (.slice (some ad) n c) X) (hX : X.length = n) (hn : n ≤ 64) (hok : okS true n = true) (hc : n ≤ c) (hc2 : c ≤ 9223372036854775807) :
  Calls Tryz.prog 49 #[.iface 68 (.agg #[]), .slice (some ad) n c] w (MakesPE w 1 (d1R true X) 0) := by
 obtain ⟨ok1, ok2, ok3⟩ := okS_s hok
 have F := dFitsE (s := true) w (show n ≤ 129 by omega) T
 rw [hok] at F
 simp only [kS, Bool.false_eq_true, if_false, if_true] at F
 replace F := Ho.mk F
 obtain ⟨p, hp⟩ : ∃ p, p = pS true n := ⟨_, rfl⟩
 rw [← hp] at ok1 ok2
 have p6 : p ≤ 6 := by
  rcases Nat.lt_or_ge p 7 with q | q
  ·omega
  ·have := Nat.pow_le_pow_right (n := 2) (by omega) q
   omega
 have h64 : 2 ^ p ≤ 64 := Nat.pow_le_pow_right (n := 2) (by omega) p6
 have hq2 : 2 ≤ 2 ^ p := by rw [two_half ok2]; have := Nat.two_pow_pos (p - 1); omega
 have hp1 : 2 ^ (p + 1) = 2 * 2 ^ p := two_pow p
 obtain ⟨M, hM⟩ : ∃ M, M = mirN true (padN X) := ⟨_, rfl⟩
 have lM : M.length = 2 ^ (p + 1) := by rw [hM, mirN_len, padN_len]; omega
 have okM : okR M.length = true := by rw [lM]; exact okR_two (by omega) (by omega)
 obtain ⟨R, hR⟩ : ∃ R, R = rfR M := ⟨_, rfl⟩
 have eR : R = rfftN (p + 1) M := by rw [hR]; unfold rfR; rw [okM, lM, Nat.log2_two_pow]; rfl
 have lR : R.length = 2 ^ (p + 1) := by rw [eR, rfftN_len]
 have eF : 0 = errF M := by unfold errF; rw [okM]; rfl
 obtain ⟨Z, hZ⟩ : ∃ Z, Z = M2.oddG opsN R := ⟨_, rfl⟩
 obtain ⟨D, hD⟩ : ∃ D, D = d1R true X := ⟨_, rfl⟩
 have lD : D.length = n := by rw [hD]; unfold d1R; rw [hX, hok, ← hp]; simp [dst1N_len]; omega
 have lZ : Z.length = n + 1 := by rw [hZ, M2.oddG_len, lR]; omega
 have dZ : ∀ j, j < n → fmul (nthN Z (1 + j)) (fng halfW) = nthN D j := fun j hj => by
  rw [hD]; unfold d1R; rw [hX, hok, ← hp]
  simp only [if_true]
  rw [show nthN (dst1N p X) j = fmul (nthN (rfftN (p + 1) (mirN true (padN X))) (2 * (j + 1) + 1)) (fng halfW) from nth_map _ (by omega), ← hM, ← eR, hZ]
  congr 1
  rw [show nthN (M2.oddG opsN R) (1 + j) = nthN R (2 * (1 + j) + 1) from nth_map _ (by rw [lR]; omega), Nat.add_comm 1 j]
 have CM := Ho.mk (fun w' (b : Bel w w') => dMirS w' (hx.bel b) hX (by omega) (by omega) hc hc2)
 rw [← hM] at CM
 have LM := Ho.mk (And.intro lM lR)
 have L128 := Ho.mk (show M.length ≤ 128 ∧ 0 < R.length by rw [lM, lR, hp1]; omega)
 have TT := Ho.mk T
 have ER := Ho.mk (And.intro hR eF)
 have LD := Ho.mk lD
 have LZ := Ho.mk lZ
 have DZ := Ho.mk dZ
 have CT := Ho.mk (fun w' {ad : Addr} {c : Nat} (h : In w' (.slice (some ad) R.length c) R) => dTakS (n := n) w' h (by omega) (by omega) (by omega))
 rw [← hZ] at CT
 rw [← hD]
 have hn2 : 0 < n := by omega
 clear T hok ok1 ok2 ok3 hp p6 h64 hq2 hp1 lM okM eR lR eF lD lZ dZ hx hX hM hR hZ hD hc hc2
 have ha : ∀ w, (Instr.typeAssert (.iface 68 (.agg #[])) 113 67 true).run Tryz.prog w = .ok (.tuple #[.agg #[], .bool false]) w := fun _ => by kernel_rfl
 have hb : ∀ w, (Instr.typeAssert (.iface 68 (.agg #[])) 113 68 true).run Tryz.prog w = .ok (.tuple #[.agg #[], .bool true]) w := fun _ => by kernel_rfl
 have hi1 : ∀ w, (method 405 68 (.agg #[]) "overtone/dctone.mirrored").run Tryz.prog w = .ok (256, .agg #[]) w := fun _ => by kernel_rfl
 have hi2 : ∀ w, (method 405 68 (.agg #[]) "overtone/dctone.taken").run Tryz.prog w = .ok (257, .agg #[]) w := fun _ => by kernel_rfl
 go_enter Tryz.func49, Tryz.ntmps49
 go_wp2_with fail
 (with_reducible refine F.out.mono ?_); rintro e w1 ⟨rfl, b1⟩
 have B1 := Ho.mk b1
 clear F b1
 go_wp2_with fail
 (with_reducible refine (CM.out _ B1.out).mono ?_); rintro e w2 ⟨A1, c1, rfl, r1, b2⟩
 have I1 := Ho.mk (Pg.RowF.inn r1 (by have := L128.out.1; omega))
 have B2 := Ho.mk (B1.out.trans b2)
 clear CM r1 b2 B1
 go_wp2_with fail
 (with_reducible refine (pRfft (TT.out.bel B2.out) I1.out L128.out.1 ER.out.1 ER.out.2).mono ?_); rintro e w3 ⟨A2, c2, rfl, r2, b3⟩
 obtain ⟨g2, c3, e, k1, k2, k3, k4⟩ := r2.at_ L128.out.2
 cases e
 have I2 := Ho.mk (Pg.RowF.inn r2 (by have := LM.out; have := L128.out.1; omega))
 have B3 := Ho.mk (B2.out.trans b3)
 clear I1 r2 k1 k2 k3 k4 b3 B2
 go_wp2_with fail
 (with_reducible refine (CT.out _ I2.out).mono ?_); rintro e w4 ⟨g, c4, rfl, h1, h2, hg, hf, b4⟩
 have H : Ho (Hp w w4 [.row g Z]) := ⟨⟨B3.out.trans b4, fun x hx => by simp at hx; subst hx; exact Nat.le_trans B3.out.size hg, by simp, fun x hx => by simp at hx; subst hx; exact hf⟩⟩
 clear CT I2 B3 hg hf b4 hi1 hi2
 go_wp2_with fail
 obtain ⟨wx, rfl⟩ : ∃ wx : World, wx = w4 := ⟨_, rfl⟩
 go_loopw [39] (fun v wr => ∃ (i : Nat), i ≤ n ∧ v = .int .i64 i ∧ Ho (Hp w wr [.row g (upM (fng halfW) 1 i Z)])) (fun v _ => n - (intOf v).toNat)
 case atStart => exact ⟨0, Nat.zero_le _, rfl, by rw [upM_zero]; exact H⟩
 case round =>
  clear H
  obtain ⟨i, hi, rfl, H⟩ := hrel
  rcases Nat.lt_or_ge i n with hlt | hge
  ·obtain ⟨r, y0, l0, c0⟩ := (H.out.row 0 rfl).at_ (i := 1 + i) (by rw [upM_len, LZ.out]; omega)
   have C0 := Ho.mk (And.intro l0 c0)
   clear l0 c0
   go_wp2_with fail
   (with_reducible refine (dOMul wr C0.out.1 half_ok.2.2.1).mono ?_); rintro e w5 ⟨q, rfl, l5, c5, b5⟩
   replace H := Ho.mk (H.out.grow b5)
   have C5 := Ho.mk (And.intro l5 (show cn q = fmul (nthN Z (1 + i)) (fng halfW) by rw [c5, C0.out.2, half_ok.2.2.2, upM_at (by rw [LZ.out]; omega), if_neg (by omega)]))
   clear y0 C0 l5 c5 b5
   obtain ⟨_, y0, _, _⟩ := (H.out.row 0 rfl).at_ (i := 1 + i) (by rw [upM_len, LZ.out]; omega)
   have x0 := (H.out.row 0 rfl).free (1 + i)
   go_wp2_with fail
   clear y0 x0
   replace H := Ho.mk (H.out.setF 0 rfl (1 + i) C5.out.1 C5.out.2)
   simp only [List.set_cons_zero, List.set_cons_succ] at H
   generalize World.setCell w5 ⟨g, 1 + i, none⟩ (.float .f64 q) = w6 at *
   have eU := upM_set (h := (fng halfW)) (o := 1) (i := i) (Z := Z) (by rw [LZ.out]; omega)
   skip
   rw [eU] at H
   clear eU
   go_roundw
   case rel => exact ⟨i + 1, by omega, by simp, H⟩
   case measure => simp [intOf]; omega
  ·obtain rfl : i = n := by omega
   go_wp2
   go_ret2
   have P : Part w wr 1 (some ⟨g, 1, none⟩) D := ⟨.inr ⟨g, _, rfl, H.out.row 0 rfl, H.out.ge _ (List.mem_cons_self ..), by rw [upM_len, LZ.out, LD.out]; omega, fun j hj => by
    rw [LD.out] at hj
    rw [upM_at (by rw [LZ.out]; omega), if_pos (by omega), DZ.out j hj]⟩⟩
   refine ⟨_, c4, by rw [LD.out]; rfl, ?_, P, H.out.bel⟩
   have I := fz_in (n := i + 1) (c := i + 1) (H.out.row 0 rfl) (by rw [upM_len, LZ.out]) (by omega) (Nat.le_refl _) (by omega)
   have J := in_part (c' := c4) (i := 1) (Y := D) I (by rw [upM_len, LZ.out]) LD.out (by omega) h1 h2 (fun j hj => by rw [upM_at (by rw [LZ.out]; omega), if_pos (by omega), DZ.out j hj])
   rw [LD.out]
   exact J
theorem dDst1 {A : Option Addr} {c n : Nat} {X : List Nat} {w : World} (T : Tab w) (hx : In w (.slice A n c) X) (hl : X.length ≤ 64) {Z : List Nat} {z : Int} (h1 : Z = d1R true X) (h2 : z = d1E true X) :
  Calls Tryz.prog 24 #[.slice A n c] w (MakesPE w 1 Z z) := by
 obtain rfl : X.length = n := by obtain ⟨A1, c1, e1, _⟩ := hx.out; cases e1; rfl
 obtain ⟨A1, c1, e1, k1, k2, k3, k4⟩ := hx.out
 cases e1
 have CM : Ho (Calls Tryz.prog 49 #[.iface 68 (.agg #[]), .slice A X.length c] w (MakesPE w 1 Z z)) := by
  cases hok : okS true X.length with
  | false =>
   have e1 : Z = [] := by rw [h1]; unfold d1R; rw [hok]; rfl
   have e2 : z = 2 := by rw [h2]; unfold d1E; rw [hok]; rfl
   rw [e1, e2]
   refine ⟨(dMade0s w T (by omega) hok).mono ?_⟩
   rintro e w' ⟨rfl, b⟩
   exact ⟨none, 0, rfl, ⟨none, 0, rfl, Nat.le_refl _, by decide, Fr.nil _ _, fun _ => rfl⟩, ⟨.inl rfl⟩, b⟩
  | true =>
   have e2 : z = 0 := by rw [h2]; unfold d1E; rw [hok]; rfl
   rw [h1, e2]
   have h0 : 0 < X.length := by
    have := okS_s hok
    have := Nat.two_pow_pos (pS true X.length)
    by_cases q : X.length = 0
    ·rw [q] at hok; exact absurd hok (by decide)
    ·omega
   cases A with
   | none => have := k4 rfl; omega
   | some ad => exact ⟨dMade1s w T hx rfl hl hok k1 k2⟩
 clear T hx hl h1 h2 k1 k2 k3 k4
 go_enter Tryz.func24, Tryz.ntmps24
 go_wp2_with fail
 (with_reducible refine CM.out.mono ?_); rintro e w1 ⟨A2, c2, rfl, i, p, b⟩
 have I := Ho.mk (And.intro i (And.intro p b))
 clear CM i p b
 go_wp2
 go_ret2
 exact ⟨A2, c2, rfl, I.out.1, I.out.2.1, I.out.2.2⟩
end Kf
namespace Y9
open Ieee Go Go.RowKit Go.Proofs Go.Proofs.YtalbgklfhabnkaaGreatDoor Ow Gp Gq Gr G1 G3 I0 W0 W1 W2 P0 Po Y2 Y3 W5
open Go.Proofs.YtalbgklfhabnkaaGreatDoor.Pq (ord_c ge_c le_c)
open Go.Proofs.YtalbgklfhabnkaaGreatDoor.Pg (In)
attribute [local go_sem ↓] Go.wp_at_zero Go.wp_at_succ
theorem tm_mid {r : Nat} (h : r < 2 * sgnW) (hf : frung r ≤ infR) (hm : V r = 0 ∨ (mag (P2 983) ≤ (V r).natAbs ∧ (V r).natAbs ≤ mag (P2 1063))) : Tm (cn r) := by
 have hb : infR = 2047 * bn := by decide
 rcases hm with h0 | ⟨h1, h2⟩
 ·have e : frung r = 0 := by
   have := V_abs r
   rw [h0] at this
   exact mag_inj (by rw [← this, mag_zero]; rfl)
  have : cn r = 0 := by unfold cn; rw [if_neg (by omega), if_pos e]
  rw [this]
  exact ⟨nm_zero, .inl rfl⟩
 ·rw [V_abs, mag_le] at h1 h2
  have q1 := h1
  have q2 := h2
  unfold P2 at h1 h2
  have hpos : 0 < bn := by decide
  have hlt : frung r < infR := by omega
  have e : cn r = r := by unfold cn; rw [if_neg (by omega), if_neg (by omega)]
  rw [e]
  exact ⟨⟨h, hlt, e⟩, .inr ⟨q1, q2⟩⟩
theorem V_c1 : V 4427038433705197568 = (mag (P2 983) : Int) := by decide +kernel
theorem V_c2 : V 4787326403894837248 = (mag (P2 1063) : Int) := by decide +kernel
theorem V_c3 : V 13650410470559973376 = -(mag (P2 983) : Int) := by decide +kernel
theorem V_c4 : V 14010698440749613056 = -(mag (P2 1063) : Int) := by decide +kernel
theorem pass0 {r : Nat} (h : r < 2 * sgnW) (e : (FloatKind.f64.format.order r 0 == some .eq) = true) : Tm (cn r) := by
 obtain ⟨a, b⟩ := ord_c (c := 0) (v := 0) h (by decide) (by decide) (by decide) (by cases q : FloatKind.f64.format.order r 0 <;> simp_all)
 refine tm_mid h a (.inl ?_)
 rw [b, cmp_int] at e
 split at e
 ·simp at e
 ·split at e
  ·assumption
  ·simp at e
theorem pass1 {r : Nat} (h : r < 2 * sgnW) (e1 : (FloatKind.f64.format.order r 4427038433705197568 == some .gt || FloatKind.f64.format.order r 4427038433705197568 == some .eq) = true) (e2 : (FloatKind.f64.format.order r 4787326403894837248 == some .lt || FloatKind.f64.format.order r 4787326403894837248 == some .eq) = true) : Tm (cn r) := by
 obtain ⟨a, b⟩ := ge_c h (by decide) (by decide) V_c1 e1
 obtain ⟨_, b2⟩ := le_c h (by decide) (by decide) V_c2 e2
 exact tm_mid h a (.inr ⟨by omega, by omega⟩)
theorem pass2 {r : Nat} (h : r < 2 * sgnW) (e1 : (FloatKind.f64.format.order r 13650410470559973376 == some .lt || FloatKind.f64.format.order r 13650410470559973376 == some .eq) = true) (e2 : (FloatKind.f64.format.order r 14010698440749613056 == some .gt || FloatKind.f64.format.order r 14010698440749613056 == some .eq) = true) : Tm (cn r) := by
 obtain ⟨a, b⟩ := le_c h (by decide) (by decide) V_c3 e1
 obtain ⟨_, b2⟩ := ge_c h (by decide) (by decide) V_c4 e2
 exact tm_mid h a (.inr ⟨by omega, by omega⟩)
theorem dTame {A : Option Addr} {n c : Nat} {X : List Nat} (W0 : World) (hx : Fr W0 A X) (hn : X.length = n) (hl : n ≤ 100000) :
  Calls Tryz.prog 18 #[.slice A n c] W0 (fun e w' => ∃ z, e = .returned (.bool z) ∧ Bel W0 w' ∧ (z = true → ∀ i, i < n → Tm (nthN X i))) := by
 have FX := Ho.mk hx
 have HN := Ho.mk hn
 clear hx hn
 go_enter Tryz.func18, Tryz.ntmps18
 go_wp2_with fail
 go_loopw [3] (fun v wr => ∃ (i : Nat), i ≤ n ∧ v = .int .i64 i ∧ Ho (∀ j, j < i → Tm (nthN X j)) ∧ Ho (Bel W0 wr)) (fun v _ => n - (intOf v).toNat)
 case atStart => exact ⟨0, Nat.zero_le _, rfl, ⟨fun j hj => absurd hj (Nat.not_lt_zero _)⟩, ⟨Bel.refl _⟩⟩
 case round =>
  obtain ⟨i, hi, rfl, HT, HW⟩ := hrel
  rcases Nat.lt_or_ge i n with hlt | hge
  ·obtain ⟨a1, r, rfl, y1, l1, c1⟩ := FX.out.at_ (i := i) (by rw [HN.out]; exact hlt)
   have y1 := HW.out.cell y1
   have L1 := Ho.mk l1
   have C1 := Ho.mk c1
   clear l1 c1
   cases h0 : (FloatKind.f64.format.order r 0 == some .eq) with
   | true =>
    have UP := Ho.mk (pass0 L1.out h0)
    go_wp2
    go_roundw
    case rel => exact ⟨i + 1, by omega, by simp, ⟨fun j hj => by rcases Nat.lt_or_ge j i with l | l; exact HT.out j l; rw [show j = i by omega, ← C1.out]; exact UP.out⟩, HW⟩
    case measure => simp [intOf]; omega
   | false =>
    cases h1 : (FloatKind.f64.format.order r 4427038433705197568 == some .gt || FloatKind.f64.format.order r 4427038433705197568 == some .eq) with
    | true =>
     cases h2 : (FloatKind.f64.format.order r 4787326403894837248 == some .lt || FloatKind.f64.format.order r 4787326403894837248 == some .eq) with
     | true =>
      have UP := Ho.mk (pass1 L1.out h1 h2)
      go_wp2
      go_roundw
      case rel => exact ⟨i + 1, by omega, by simp, ⟨fun j hj => by rcases Nat.lt_or_ge j i with l | l; exact HT.out j l; rw [show j = i by omega, ← C1.out]; exact UP.out⟩, HW⟩
      case measure => simp [intOf]; omega
     | false =>
      cases h3 : (FloatKind.f64.format.order r 13650410470559973376 == some .lt || FloatKind.f64.format.order r 13650410470559973376 == some .eq) with
      | true =>
       cases h4 : (FloatKind.f64.format.order r 14010698440749613056 == some .gt || FloatKind.f64.format.order r 14010698440749613056 == some .eq) with
       | true =>
        have UP := Ho.mk (pass2 L1.out h3 h4)
        go_wp2
        go_roundw
        case rel => exact ⟨i + 1, by omega, by simp, ⟨fun j hj => by rcases Nat.lt_or_ge j i with l | l; exact HT.out j l; rw [show j = i by omega, ← C1.out]; exact UP.out⟩, HW⟩
        case measure => simp [intOf]; omega
       | false =>
        go_wp2
        go_ret
        exact ⟨false, rfl, HW.out, fun e => by cases e⟩
      | false =>
       go_wp2
       go_ret
       exact ⟨false, rfl, HW.out, fun e => by cases e⟩
    | false =>
     cases h3 : (FloatKind.f64.format.order r 13650410470559973376 == some .lt || FloatKind.f64.format.order r 13650410470559973376 == some .eq) with
     | true =>
      cases h4 : (FloatKind.f64.format.order r 14010698440749613056 == some .gt || FloatKind.f64.format.order r 14010698440749613056 == some .eq) with
      | true =>
       have UP := Ho.mk (pass2 L1.out h3 h4)
       go_wp2
       go_roundw
       case rel => exact ⟨i + 1, by omega, by simp, ⟨fun j hj => by rcases Nat.lt_or_ge j i with l | l; exact HT.out j l; rw [show j = i by omega, ← C1.out]; exact UP.out⟩, HW⟩
       case measure => simp [intOf]; omega
      | false =>
       go_wp2
       go_ret
       exact ⟨false, rfl, HW.out, fun e => by cases e⟩
     | false =>
      go_wp2
      go_ret
      exact ⟨false, rfl, HW.out, fun e => by cases e⟩
  ·obtain rfl : i = n := by omega
   go_wp2
   go_ret
   exact ⟨true, rfl, HW.out, fun _ => HT.out⟩
def scl (q : Nat) (X : List Nat) : List Nat := X.map fun x => fmul x q
theorem scl_len (q : Nat) (X : List Nat) : (scl q X).length = X.length := by simp [scl]
theorem dScaled {A : Option Addr} {n c q : Nat} {X : List Nat} (w : World) (hx : In w (.slice A n c) X) (hn : X.length = n) (hl : n ≤ 1000) (hq : q < 2 * sgnW) :
  Calls Tryz.prog 19 #[.slice A n c, .float .f64 q] w (MakesF w (scl (cn q) X)) := by
 obtain ⟨A1, c1, e, _, _, hfr, _⟩ := hx.out
 simp only [Value.slice.injEq] at e
 obtain ⟨rfl, e2, e3⟩ := e
 clear e2 e3
 have FX := Ho.mk hfr
 have HN := Ho.mk hn
 have MU := Ho.mk (fun (a : Nat) (h : a < 2 * sgnW) (w : World) => run_fmul (P := Tryz.prog) 22 h hq w)
 clear hx hn hfr hq
 go_enter Tryz.func19, Tryz.ntmps19
 go_wp2_with fail
 go_loopw [5, 6] (fun u v wr => ∃ (i : Nat) (B : Option Addr) (d : Nat), i ≤ n ∧ v = .int .i64 i ∧ u = .slice B i d ∧ Ho (Og wr (.slice B i d) (scl (cn q) (X.take i))) ∧ Ho (∀ g, (Value.slice B i d).ownBlock = some g → w.heap.size ≤ g) ∧ Ho (Bel w wr)) (fun _ v _ => n - (intOf v).toNat)
 case atStart => exact ⟨0, none, 0, Nat.zero_le _, rfl, rfl, ⟨Og.nil _⟩, ⟨fun g hg => by cases hg⟩, ⟨Bel.refl _⟩⟩
 case round =>
  obtain ⟨i, B, d, hi, rfl, rfl, HO, HG, HB⟩ := hrel
  rcases Nat.lt_or_ge i n with hlt | hge
  ·obtain ⟨a1, r, rfl, y1, l1, c1⟩ := FX.out.at_ (i := i) (by rw [HN.out]; exact hlt)
   have y1 := HB.out.cell y1
   have C1 := Ho.mk c1
   obtain ⟨p, wm, hm, hb, pl, pc⟩ := MU.out r l1 wr
   have PC := Ho.mk (And.intro pl pc)
   have BM := Ho.mk (drew_bel wr hb)
   have OM := Ho.mk (HO.out.bel BM.out)
   have hZ : scl (cn q) (X.take (i + 1)) = scl (cn q) (X.take i) ++ [cn p] := by
    have hlt2 : i < X.length := by rw [HN.out]; exact hlt
    unfold scl
    rw [List.take_add_one, List.getElem?_eq_getElem hlt2, List.map_append, PC.out.2, C1.out, nthN_lt hlt2]; rfl
   have lZ : (scl (cn q) (X.take i)).length = i := by rw [scl_len, List.length_take, HN.out]; omega
   have lZ2 : (scl (cn q) (X.take (i + 1))).length = i + 1 := by rw [scl_len, List.length_take, HN.out]; omega
   have HL := Ho.mk (And.intro lZ (And.intro lZ2 hZ))
   have z9 := (Blk.new wm [.float .f64 p] 22).cell (i := 0) rfl
   have BA := Ho.mk ((Bel.refl wm).alloc (.cells #[.float .f64 p] 22))
   clear l1 c1 hb pl pc lZ lZ2 hZ
   go_wp2_with (at_builtin; refine wpList_appA rfl _ _ rfl (OM.out.bel BA.out) rfl rfl z9 PC.out.1 (by rw [HL.out.1]; omega) HL.out.2.2 ?_; intro tA tc w3 ho ha; rw [HL.out.2.1] at ho ha ⊢; have HO3 := Ho.mk ho; have HA3 := Ho.mk ha; clear z9 ho ha hm)
   have HB3 := Ho.mk (HA3.out.bel ((HB.out.trans BM.out).trans BA.out) HG.out)
   have HG3 := Ho.mk (fun g (hg : (Value.slice tA (i + 1) tc).ownBlock = some g) => show w.heap.size ≤ g from by
    rcases HA3.out.own with e | e
    ·rw [e] at hg; exact HG.out g hg
    ·rw [e] at hg; cases hg
     have := ((HB.out.trans BM.out).trans BA.out).size
     exact this)
   go_roundw
   case rel => exact ⟨i + 1, tA, tc, by omega, by simp, rfl, HO3, HG3, HB3⟩
   case measure => simp [intOf]; omega
  ·obtain rfl : i = n := by omega
   go_wp2
   go_ret
   have e : X.take i = X := by rw [← HN.out]; exact List.take_length
   have ho := HO.out
   rw [e] at ho
   have l : (scl (cn q) X).length = i := by rw [scl_len, HN.out]
   refine ⟨B, d, by rw [l]; rfl, ?_, HB.out⟩
   rw [l]
   exact ho.rowF HG.out
end Y9
namespace Li
open Ieee Go Go.RowKit Go.Proofs Go.Proofs.YtalbgklfhabnkaaGreatDoor Ow Dt Gp I0 U0 W0 S4 S6 P0 M0 M1 M3 W4 W5 V2 P4 Y3 Yh Y1 P8 Pc Y5 Y6 Y7 Pk Lv Le Y2 Y9
open Go.Proofs.YtalbgklfhabnkaaGreatDoor.V1 (NI St ni_same ni_loop St.refl St.of_bel blk_keep ni_blk put_st)
open Go.Proofs.YtalbgklfhabnkaaGreatDoor.C6 (leaveAny)
open Go.Proofs.YtalbgklfhabnkaaGreatDoor.Pg (In)
attribute [local go_sem ↓] Go.wp_at_zero Go.wp_at_succ
def wW (up : Bool) : Nat := if up then 4791830003522207744 else 13681935667951566848
theorem wW_ok (up : Bool) : wW up < 2 * sgnW ∧ cn (wW up) = facW up := by cases up <;> decide +kernel
theorem pTame {A : Option Addr} {n c : Nat} {X : List Nat} {w : World} (hx : In w (.slice A n c) X) (hl : X.length ≤ 100000) :
  Calls Tryz.prog 18 #[.slice A n c] w (fun e w' => ∃ z, e = .returned (.bool z) ∧ Bel w w' ∧ (z = true → ∀ x ∈ X, Tm x)) := by
 have hn := In.len hx
 obtain ⟨A1, c1, e, _, _, hfr, _⟩ := hx.out
 simp only [Value.slice.injEq] at e
 obtain ⟨rfl, _, _⟩ := e
 refine (dTame w hfr hn.symm (by omega)).mono ?_
 rintro e w' ⟨z, rfl, b, h⟩
 refine ⟨z, rfl, b, fun hz x hx => ?_⟩
 obtain ⟨i, hi, rfl⟩ := List.getElem_of_mem hx
 have := h hz i (by omega)
 rwa [nthN_lt hi] at this
theorem pScaled {A : Option Addr} {n c q : Nat} {X : List Nat} {w : World} (hx : In w (.slice A n c) X) (hl : X.length ≤ 1000) (hq : q < 2 * sgnW) {Z : List Nat} (h1 : Z = scl (cn q) X) :
  Calls Tryz.prog 19 #[.slice A n c, .float .f64 q] w (MakesF w Z) := by
 obtain rfl := In.len hx
 rw [h1]; exact dScaled w hx rfl hl hq
end Li
namespace Ln
open Ieee Go Go.RowKit Go.Proofs Go.Proofs.YtalbgklfhabnkaaGreatDoor Ow Dt Gp I0 U0 W0 S4 S6 P0 M0 M1 M3 W4 W5 V2 P4 Y3 Yh Y1 P8 Pc Y5 Y6 Y7 Pk Lv Le Li Y2 Y9 Z4 Kc
open Go.Proofs.YtalbgklfhabnkaaGreatDoor.Kf (d1R d1E pS okS_c okS_s Part MakesPE dDct1 dDst1)
open Go.Proofs.YtalbgklfhabnkaaGreatDoor.S4 (infoF)
open Go.Proofs.YtalbgklfhabnkaaGreatDoor.W1 (Nm)
open Go.Proofs.YtalbgklfhabnkaaGreatDoor.W2 (P2)
open Go.Proofs.YtalbgklfhabnkaaGreatDoor.V1 (NI St ni_same ni_loop St.refl St.of_bel blk_keep ni_blk put_st)
open Go.Proofs.YtalbgklfhabnkaaGreatDoor.C6 (leaveAny)
open Go.Proofs.YtalbgklfhabnkaaGreatDoor.Pg (In)
attribute [local go_sem ↓] Go.wp_at_zero Go.wp_at_succ
def MakesI (w : World) (Z : List Nat) (z : Int) (e : Ending) (w' : World) : Prop := ∃ A c, e = .returned (.tuple #[.slice A Z.length c, .int .i64 z]) ∧ In w' (.slice A Z.length c) Z ∧ Bel w w'
theorem idI {w : World} {v : Value} {Z : List Nat} (h : In w v Z) (_ : Z.length ≤ 100000) : In w v Z := h
section
variable {A : Option Addr} {n c : Nat} {X : List Nat} {w : World}
theorem pDct1 (T : Tab w) (hx : In w (.slice A n c) X) (hl : X.length ≤ 64) {Z : List Nat} {z : Int} (h1 : Z = d1R false X) (h2 : z = d1E false X) :
  Calls Tryz.prog 23 #[.slice A n c] w (MakesI w Z z) := by
 refine (dDct1 T hx hl h1 h2).mono ?_
 rintro e w' ⟨A, c, rfl, i, _, b⟩; exact ⟨A, c, rfl, i, b⟩
theorem pDst1 (T : Tab w) (hx : In w (.slice A n c) X) (hl : X.length ≤ 64) {Z : List Nat} {z : Int} (h1 : Z = d1R true X) (h2 : z = d1E true X) :
  Calls Tryz.prog 24 #[.slice A n c] w (MakesI w Z z) := by
 refine (dDst1 T hx hl h1 h2).mono ?_
 rintro e w' ⟨A, c, rfl, i, _, b⟩; exact ⟨A, c, rfl, i, b⟩
end
theorem d1_yes {s : Bool} {X : List Nat} (h : okS s X.length = true) : (d1R s X).length = X.length ∧ d1E s X = 0 := by
 refine ⟨?_, by unfold d1E; rw [h]; rfl⟩
 unfold d1R; rw [h]
 cases s
 ·have := (okS_c h).1; simp [dct1N_len]; omega
 ·have := (okS_s h).1; simp [dst1N_len]; omega
theorem d1_no {s : Bool} {X : List Nat} (h : okS s X.length = false) : d1R s X = [] ∧ d1E s X = 2 := ⟨by unfold d1R; rw [h]; rfl, by unfold d1E; rw [h]; rfl⟩
theorem d1_le (s : Bool) (X : List Nat) : (d1R s X).length ≤ X.length := by
 cases h : okS s X.length
 ·rw [(d1_no h).1]; simp
 ·rw [(d1_yes h).1]; exact Nat.le_refl _
theorem pow_6 {p n : Nat} (h : 2 ^ p ≤ n) (hn : n ≤ 65) : p ≤ 6 := by
 rcases Nat.lt_or_ge p 7 with q | q
 ·omega
 ·have := Nat.pow_le_pow_right (n := 2) (by omega) q
  omega
theorem d1_scl {s : Bool} {up : Bool} {X : List Nat} (hl : X.length ≤ 64) (H : ∀ x ∈ X, Tm x) : d1R s (scl (facW up) X) = scl (facW up) (d1R s X) ∧ d1E s (scl (facW up) X) = d1E s X := by
 have hL := scl_len (facW up) X
 refine ⟨?_, by unfold d1E; rw [hL]⟩
 unfold d1R; rw [hL]
 cases h : okS s X.length
 ·rfl
 ·cases s
  ·obtain ⟨h1, h2, _⟩ := okS_c h
   have := pow_6 (p := pS false X.length) (n := 65) (by omega) (by omega)
   simp only [if_true, Bool.false_eq_true, if_false]
   exact dct1_scale this h1 H
  ·obtain ⟨h1, h2, _⟩ := okS_s h
   have := pow_6 (p := pS true X.length) (n := 65) (by omega) (by omega)
   simp only [if_true]
   exact dst1_scale h2 this (by omega) H
theorem head18_0 : d1R false [4607182418800017408, 4611686018427387904, 4613937818241073152] = [4616189618054758400, 13830554455654793216, 0] ∧ d1E false [4607182418800017408, 4611686018427387904, 4613937818241073152] = 0 := by decide +kernel
theorem head18_1 : d1R true [4613937818241073152] = [4613937818241073152] ∧ d1E true [4613937818241073152] = 0 := by decide +kernel
theorem head18_2 : d1R false [4607182418800017408, 4611686018427387904] = [] ∧ d1E false [4607182418800017408, 4611686018427387904] = 2 := by decide +kernel
theorem head18_3 : d1R true [] = [] ∧ d1E true [] = 2 := by decide +kernel
theorem head18 (w : World) (T : Tab w) : Calls Tryz.prog 22 #[] w (fun e w' => e = .returned (.bool true) ∧ Bel w w') := by
 have TT := Ho.mk T
 clear T
 go_enter Tryz.func22, Tryz.ntmps22
 go_wp2_with fail
 have K0 := Ho.mk (Blk.new w [.float .f64 4607182418800017408, .float .f64 4611686018427387904, .float .f64 4613937818241073152] 22)
 have g1 := Ho.mk ((Bel.refl w).alloc (.cells #[.float .f64 4607182418800017408, .float .f64 4611686018427387904, .float .f64 4613937818241073152] 22))
 generalize w.alloc (.cells #[.float .f64 4607182418800017408, .float .f64 4611686018427387904, .float .f64 4613937818241073152] 22) = v2 at *
 have R3 := Ho.mk (litRow (X := [4607182418800017408, 4611686018427387904, 4613937818241073152]) K0.out rfl (by decide) (n := 3) rfl (by decide))
 obtain ⟨Z0, hZ0⟩ : ∃ Z : List Nat, Z = [4616189618054758400, 13830554455654793216, 0] := ⟨_, rfl⟩
 have C4 := Ho.mk (pDct1 (TT.out.bel g1.out) (inn R3.out (by decide)) (by decide) (Z := Z0) (z := 0) (hZ0.trans head18_0.1.symm) head18_0.2.symm)
 (with_reducible refine C4.out.mono ?_); rintro e v5 ⟨Q0, c0, rfl, t0, b6⟩
 have b6H := Ho.mk b6
 have T0 := Ho.mk t0
 clear C4 b6 t0
 have HZ0 := Ho.mk hZ0
 clear hZ0
 go_wp2_with fail
 have K1 := Ho.mk (Blk.new v5 [.float .f64 4613937818241073152] 22)
 have g7 := Ho.mk ((Bel.refl v5).alloc (.cells #[.float .f64 4613937818241073152] 22))
 generalize v5.alloc (.cells #[.float .f64 4613937818241073152] 22) = v8 at *
 have R9 := Ho.mk (litRow (X := [4613937818241073152]) K1.out rfl (by decide) (n := 1) rfl (by decide))
 obtain ⟨Z1, hZ1⟩ : ∃ Z : List Nat, Z = [4613937818241073152] := ⟨_, rfl⟩
 have C10 := Ho.mk (pDst1 (TT.out.bel ((g1.out.trans b6H.out).trans g7.out)) (inn R9.out (by decide)) (by decide) (Z := Z1) (z := 0) (hZ1.trans head18_1.1.symm) head18_1.2.symm)
 (with_reducible refine C10.out.mono ?_); rintro e v11 ⟨Q1, c1, rfl, t1, b12⟩
 have b12H := Ho.mk b12
 have T1 := Ho.mk t1
 clear C10 b12 t1
 have HZ1 := Ho.mk hZ1
 clear hZ1
 go_wp2_with fail
 have K2 := Ho.mk (Blk.new v11 [.float .f64 4607182418800017408, .float .f64 4611686018427387904] 22)
 have g13 := Ho.mk ((Bel.refl v11).alloc (.cells #[.float .f64 4607182418800017408, .float .f64 4611686018427387904] 22))
 generalize v11.alloc (.cells #[.float .f64 4607182418800017408, .float .f64 4611686018427387904] 22) = v14 at *
 have R15 := Ho.mk (litRow (X := [4607182418800017408, 4611686018427387904]) K2.out rfl (by decide) (n := 2) rfl (by decide))
 obtain ⟨Z2, hZ2⟩ : ∃ Z : List Nat, Z = [] := ⟨_, rfl⟩
 have C16 := Ho.mk (pDct1 (TT.out.bel ((((g1.out.trans b6H.out).trans g7.out).trans b12H.out).trans g13.out)) (inn R15.out (by decide)) (by decide) (Z := Z2) (z := 2) (hZ2.trans head18_2.1.symm) head18_2.2.symm)
 (with_reducible refine C16.out.mono ?_); rintro e v17 ⟨Q2, c2, rfl, t2, b18⟩
 have b18H := Ho.mk b18
 have T2 := Ho.mk t2
 clear C16 b18 t2
 clear hZ2
 go_wp2_with fail
 obtain ⟨Z3, hZ3⟩ : ∃ Z : List Nat, Z = [] := ⟨_, rfl⟩
 have C19 := Ho.mk (pDst1 (TT.out.bel (((((g1.out.trans b6H.out).trans g7.out).trans b12H.out).trans g13.out).trans b18H.out)) (in_nil _ none) (by decide) (Z := Z3) (z := 2) (hZ3.trans head18_3.1.symm) head18_3.2.symm)
 (with_reducible refine C19.out.mono ?_); rintro e v20 ⟨Q3, c3, rfl, t3, b21⟩
 have b21H := Ho.mk b21
 have T3 := Ho.mk t3
 clear C19 b21 t3
 clear hZ3
 go_wp2_with fail
 have M0 := Ho.mk (Blk.new v20 [.float .f64 4616189618054758400, .float .f64 13830554455654793216, .float .f64 0] 22)
 have g22 := Ho.mk ((Bel.refl v20).alloc (.cells #[.float .f64 4616189618054758400, .float .f64 13830554455654793216, .float .f64 0] 22))
 generalize v20.alloc (.cells #[.float .f64 4616189618054758400, .float .f64 13830554455654793216, .float .f64 0] 22) = v23 at *
 have R24 := Ho.mk (litRow (X := [4616189618054758400, 13830554455654793216, 0]) M0.out rfl (by decide) (n := 3) rfl (by decide))
 have C25 := Ho.mk (pSameRow (z := true) (idI (T0.out.bel (((((g7.out.trans b12H.out).trans g13.out).trans b18H.out).trans b21H.out).trans g22.out)) (by rw [HZ0.out]; decide)) (inn R24.out (by decide)) (by rw [HZ0.out]; decide) (by decide) (by rw [HZ0.out]; decide))
 (with_reducible refine C25.out.mono ?_); rintro e v26 ⟨rfl, b27⟩
 have b27H := Ho.mk b27
 clear C25 b27
 go_wp2_with fail
 have M1 := Ho.mk (Blk.new v26 [.float .f64 4613937818241073152] 22)
 have g28 := Ho.mk ((Bel.refl v26).alloc (.cells #[.float .f64 4613937818241073152] 22))
 generalize v26.alloc (.cells #[.float .f64 4613937818241073152] 22) = v29 at *
 have R30 := Ho.mk (litRow (X := [4613937818241073152]) M1.out rfl (by decide) (n := 1) rfl (by decide))
 have C31 := Ho.mk (pSameRow (z := true) (idI (T1.out.bel (((((g13.out.trans b18H.out).trans b21H.out).trans g22.out).trans b27H.out).trans g28.out)) (by rw [HZ1.out]; decide)) (inn R30.out (by decide)) (by rw [HZ1.out]; decide) (by decide) (by rw [HZ1.out]; decide))
 (with_reducible refine C31.out.mono ?_); rintro e v32 ⟨rfl, b33⟩
 have b33H := Ho.mk b33
 clear C31 b33
 go_wp2
 go_ret
 exact ⟨rfl, ((((((((((g1.out.trans b6H.out).trans g7.out).trans b12H.out).trans g13.out).trans b18H.out).trans b21H.out).trans g22.out).trans b27H.out).trans g28.out).trans b33H.out)⟩
theorem scale18L {A : Option Addr} {c n : Nat} {X : List Nat} {up : Bool} (w : World) (T : Tab w) (hx : In w (.slice A n c) X) (hX : X.length = n) (hl : 64 < n) : Calls Tryz.prog 7 #[.slice A n c, .bool up] w (fun e w' => e = .returned (.bool true) ∧ Bel w w') := by
 have TT := Ho.mk T
 have hl2 : (64 : Int) < (n : Int) := by omega
 clear T hx hX
 go_enter Tryz.func7, Tryz.ntmps7
 go_wp2_with fail
 have C1 := Ho.mk (head18 w (TT.out.bel (Bel.refl _)))
 (with_reducible refine C1.out.mono ?_); rintro e v2 ⟨rfl, b3⟩
 have b3H := Ho.mk b3
 clear C1 b3
 go_wp2
 go_ret
 exact ⟨rfl, b3H.out⟩
theorem scale18S {A : Option Addr} {c n : Nat} {X : List Nat} {up : Bool} (w : World) (T : Tab w) (hx : In w (.slice A n c) X) (hX : X.length = n) (hl : n ≤ 64) : Calls Tryz.prog 7 #[.slice A n c, .bool up] w (fun e w' => e = .returned (.bool true) ∧ Bel w w') := by
 have TT := Ho.mk T
 have HX := Ho.mk hx
 have HXL := Ho.mk hX
 obtain ⟨q, hq⟩ : ∃ q, q = wW up := ⟨_, rfl⟩
 have hqU : up = true → q = 4791830003522207744 := fun e => by rw [hq, e]; rfl
 have hqD : up = false → q = 13681935667951566848 := fun e => by rw [hq, e]; rfl
 have HQ := Ho.mk (wW_ok up)
 rw [← hq] at HQ
 obtain ⟨F, hF⟩ : ∃ F, F = facW up := ⟨_, rfl⟩
 rw [← hF] at HQ
 have hl2 : ¬ (64 : Int) < (n : Int) := by omega
 obtain ⟨S1, hS1⟩ : ∃ Z, Z = scl F X := ⟨_, rfl⟩
 have LS1 := Ho.mk (show S1.length ≤ 64 by rw [hS1, scl_len]; omega)
 have ES := Ho.mk (show S1 = scl (cn q) X by rw [HQ.out.2]; exact hS1)
 obtain ⟨Z0, hZ0⟩ : ∃ Z, Z = d1R false X := ⟨_, rfl⟩
 obtain ⟨z0, hz0⟩ : ∃ z, z = d1E false X := ⟨_, rfl⟩
 obtain ⟨W0, hW0⟩ : ∃ Z, Z = scl F Z0 := ⟨_, rfl⟩
 have LZ0 := Ho.mk (show Z0.length ≤ 64 by rw [hZ0]; exact Nat.le_trans (d1_le false X) (by omega))
 have LW0 := Ho.mk (show W0.length ≤ 64 by rw [hW0, scl_len]; exact LZ0.out)
 have E0 := Ho.mk (And.intro hZ0 hz0)
 have EW0 := Ho.mk (show W0 = scl (cn q) Z0 by rw [HQ.out.2]; exact hW0)
 have RS0 := Ho.mk (show (∀ x ∈ X, Tm x) → W0 = d1R false S1 ∧ z0 = d1E false S1 from fun h => by
  have l := d1_scl (s := false) (up := up) (X := X) (by omega) h
  rw [hS1, hF, l.1, l.2, hW0, hF, hZ0, hz0]; exact ⟨rfl, rfl⟩)
 obtain ⟨Z1, hZ1⟩ : ∃ Z, Z = d1R true X := ⟨_, rfl⟩
 obtain ⟨z1, hz1⟩ : ∃ z, z = d1E true X := ⟨_, rfl⟩
 obtain ⟨W1, hW1⟩ : ∃ Z, Z = scl F Z1 := ⟨_, rfl⟩
 have LZ1 := Ho.mk (show Z1.length ≤ 64 by rw [hZ1]; exact Nat.le_trans (d1_le true X) (by omega))
 have LW1 := Ho.mk (show W1.length ≤ 64 by rw [hW1, scl_len]; exact LZ1.out)
 have E1 := Ho.mk (And.intro hZ1 hz1)
 have EW1 := Ho.mk (show W1 = scl (cn q) Z1 by rw [HQ.out.2]; exact hW1)
 have RS1 := Ho.mk (show (∀ x ∈ X, Tm x) → W1 = d1R true S1 ∧ z1 = d1E true S1 from fun h => by
  have l := d1_scl (s := true) (up := up) (X := X) (by omega) h
  rw [hS1, hF, l.1, l.2, hW1, hF, hZ1, hz1]; exact ⟨rfl, rfl⟩)
 clear T hx hX hF hS1 hq hZ0 hz0 hW0 hZ1 hz1 hW1
 go_enter Tryz.func7, Tryz.ntmps7
 go_wp2_with fail
 have C1 := Ho.mk (head18 w (TT.out.bel (Bel.refl _)))
 (with_reducible refine C1.out.mono ?_); rintro e v2 ⟨rfl, b3⟩
 have b3H := Ho.mk b3
 clear C1 b3
 go_wp2_with fail
 have C4 := Ho.mk (pTame (HX.out.bel b3H.out) (by have := HXL.out; omega))
 (with_reducible refine C4.out.mono ?_); rintro e v5 ⟨z, rfl, b6, hz⟩
 have b6H := Ho.mk b6
 clear C4 b6
 have ZH := Ho.mk hz
 clear hz
 cases z with
 | false =>
  go_wp2
  go_ret
  exact ⟨rfl, (b3H.out.trans b6H.out)⟩
 | true =>
  replace RS0 := Ho.mk (RS0.out (ZH.out rfl))
  replace RS1 := Ho.mk (RS1.out (ZH.out rfl))
  clear ZH
  cases up with
  | false =>
   have hqq := hqD rfl
   subst hqq
   clear hqU hqD
   go_wp2_with fail
   have C7 := Ho.mk (pDct1 (TT.out.bel (b3H.out.trans b6H.out)) (HX.out.bel (b3H.out.trans b6H.out)) (by have := HXL.out; omega) E0.out.1 E0.out.2)
   (with_reducible refine C7.out.mono ?_); rintro e v8 ⟨Aa, ca, rfl, ta, b9⟩
   have b9H := Ho.mk b9
   have TA := Ho.mk ta
   clear C7 b9 ta
   go_wp2_with fail
   have C10 := Ho.mk (pScaled (HX.out.bel ((b3H.out.trans b6H.out).trans b9H.out)) (by have := HXL.out; omega) HQ.out.1 ES.out)
   (with_reducible refine C10.out.mono ?_); rintro e v11 ⟨ASm, cSm, rfl, tSm, b12⟩
   have b12H := Ho.mk b12
   have TSM := Ho.mk tSm
   clear C10 b12 tSm
   go_wp2_with fail
   have C13 := Ho.mk (pDct1 (TT.out.bel (((b3H.out.trans b6H.out).trans b9H.out).trans b12H.out)) (inn TSM.out (by have := LS1.out; omega)) (by have := LS1.out; omega) RS0.out.1 RS0.out.2)
   (with_reducible refine C13.out.mono ?_); rintro e v14 ⟨Ab, cb, rfl, tb, b15⟩
   have b15H := Ho.mk b15
   have TB := Ho.mk tb
   clear C13 b15 tb
   go_wp2_with fail
   have C16 := Ho.mk (pDst1 (TT.out.bel ((((b3H.out.trans b6H.out).trans b9H.out).trans b12H.out).trans b15H.out)) (HX.out.bel ((((b3H.out.trans b6H.out).trans b9H.out).trans b12H.out).trans b15H.out)) (by have := HXL.out; omega) E1.out.1 E1.out.2)
   (with_reducible refine C16.out.mono ?_); rintro e v17 ⟨Ac, cc, rfl, tc, b18⟩
   have b18H := Ho.mk b18
   have TC := Ho.mk tc
   clear C16 b18 tc
   go_wp2_with fail
   have C19 := Ho.mk (pScaled (HX.out.bel (((((b3H.out.trans b6H.out).trans b9H.out).trans b12H.out).trans b15H.out).trans b18H.out)) (by have := HXL.out; omega) HQ.out.1 ES.out)
   (with_reducible refine C19.out.mono ?_); rintro e v20 ⟨ASk, cSk, rfl, tSk, b21⟩
   have b21H := Ho.mk b21
   have TSK := Ho.mk tSk
   clear C19 b21 tSk
   go_wp2_with fail
   have C22 := Ho.mk (pDst1 (TT.out.bel ((((((b3H.out.trans b6H.out).trans b9H.out).trans b12H.out).trans b15H.out).trans b18H.out).trans b21H.out)) (inn TSK.out (by have := LS1.out; omega)) (by have := LS1.out; omega) RS1.out.1 RS1.out.2)
   (with_reducible refine C22.out.mono ?_); rintro e v23 ⟨Ad, cd, rfl, td, b24⟩
   have b24H := Ho.mk b24
   have TD := Ho.mk td
   clear C22 b24 td
   go_wp2_with fail
   have C25 := Ho.mk (pScaled (idI (TA.out.bel ((((b12H.out.trans b15H.out).trans b18H.out).trans b21H.out).trans b24H.out)) (by have := LZ0.out; omega)) (by have := LZ0.out; omega) HQ.out.1 EW0.out)
   (with_reducible refine C25.out.mono ?_); rintro e v26 ⟨Ay, cy, rfl, ty, b27⟩
   have b27H := Ho.mk b27
   have TY := Ho.mk ty
   clear C25 b27 ty
   go_wp2_with fail
   have C28 := Ho.mk (pSameRow (z := true) (inn TY.out (by have := LW0.out; omega)) (idI (TB.out.bel (((b18H.out.trans b21H.out).trans b24H.out).trans b27H.out)) (by have := LW0.out; omega)) (by have := LW0.out; omega) (by have := LW0.out; omega) (by simp))
   (with_reducible refine C28.out.mono ?_); rintro e v29 ⟨rfl, b30⟩
   have b30H := Ho.mk b30
   clear C28 b30
   go_wp2_with fail
   have C31 := Ho.mk (pScaled (idI (TC.out.bel (((b21H.out.trans b24H.out).trans b27H.out).trans b30H.out)) (by have := LZ1.out; omega)) (by have := LZ1.out; omega) HQ.out.1 EW1.out)
   (with_reducible refine C31.out.mono ?_); rintro e v32 ⟨Ax, cx, rfl, tx, b33⟩
   have b33H := Ho.mk b33
   have TX := Ho.mk tx
   clear C31 b33 tx
   go_wp2_with fail
   have C34 := Ho.mk (pSameRow (z := true) (inn TX.out (by have := LW1.out; omega)) (idI (TD.out.bel ((b27H.out.trans b30H.out).trans b33H.out)) (by have := LW1.out; omega)) (by have := LW1.out; omega) (by have := LW1.out; omega) (by simp))
   (with_reducible refine C34.out.mono ?_); rintro e v35 ⟨rfl, b36⟩
   have b36H := Ho.mk b36
   clear C34 b36
   go_wp2
   go_ret
   exact ⟨rfl, (((((((((((b3H.out.trans b6H.out).trans b9H.out).trans b12H.out).trans b15H.out).trans b18H.out).trans b21H.out).trans b24H.out).trans b27H.out).trans b30H.out).trans b33H.out).trans b36H.out)⟩
  | true =>
   have hqq := hqU rfl
   subst hqq
   clear hqU hqD
   go_wp2_with fail
   have C7 := Ho.mk (pDct1 (TT.out.bel (b3H.out.trans b6H.out)) (HX.out.bel (b3H.out.trans b6H.out)) (by have := HXL.out; omega) E0.out.1 E0.out.2)
   (with_reducible refine C7.out.mono ?_); rintro e v8 ⟨Aa, ca, rfl, ta, b9⟩
   have b9H := Ho.mk b9
   have TA := Ho.mk ta
   clear C7 b9 ta
   go_wp2_with fail
   have C10 := Ho.mk (pScaled (HX.out.bel ((b3H.out.trans b6H.out).trans b9H.out)) (by have := HXL.out; omega) HQ.out.1 ES.out)
   (with_reducible refine C10.out.mono ?_); rintro e v11 ⟨ASm, cSm, rfl, tSm, b12⟩
   have b12H := Ho.mk b12
   have TSM := Ho.mk tSm
   clear C10 b12 tSm
   go_wp2_with fail
   have C13 := Ho.mk (pDct1 (TT.out.bel (((b3H.out.trans b6H.out).trans b9H.out).trans b12H.out)) (inn TSM.out (by have := LS1.out; omega)) (by have := LS1.out; omega) RS0.out.1 RS0.out.2)
   (with_reducible refine C13.out.mono ?_); rintro e v14 ⟨Ab, cb, rfl, tb, b15⟩
   have b15H := Ho.mk b15
   have TB := Ho.mk tb
   clear C13 b15 tb
   go_wp2_with fail
   have C16 := Ho.mk (pDst1 (TT.out.bel ((((b3H.out.trans b6H.out).trans b9H.out).trans b12H.out).trans b15H.out)) (HX.out.bel ((((b3H.out.trans b6H.out).trans b9H.out).trans b12H.out).trans b15H.out)) (by have := HXL.out; omega) E1.out.1 E1.out.2)
   (with_reducible refine C16.out.mono ?_); rintro e v17 ⟨Ac, cc, rfl, tc, b18⟩
   have b18H := Ho.mk b18
   have TC := Ho.mk tc
   clear C16 b18 tc
   go_wp2_with fail
   have C19 := Ho.mk (pScaled (HX.out.bel (((((b3H.out.trans b6H.out).trans b9H.out).trans b12H.out).trans b15H.out).trans b18H.out)) (by have := HXL.out; omega) HQ.out.1 ES.out)
   (with_reducible refine C19.out.mono ?_); rintro e v20 ⟨ASk, cSk, rfl, tSk, b21⟩
   have b21H := Ho.mk b21
   have TSK := Ho.mk tSk
   clear C19 b21 tSk
   go_wp2_with fail
   have C22 := Ho.mk (pDst1 (TT.out.bel ((((((b3H.out.trans b6H.out).trans b9H.out).trans b12H.out).trans b15H.out).trans b18H.out).trans b21H.out)) (inn TSK.out (by have := LS1.out; omega)) (by have := LS1.out; omega) RS1.out.1 RS1.out.2)
   (with_reducible refine C22.out.mono ?_); rintro e v23 ⟨Ad, cd, rfl, td, b24⟩
   have b24H := Ho.mk b24
   have TD := Ho.mk td
   clear C22 b24 td
   go_wp2_with fail
   have C25 := Ho.mk (pScaled (idI (TA.out.bel ((((b12H.out.trans b15H.out).trans b18H.out).trans b21H.out).trans b24H.out)) (by have := LZ0.out; omega)) (by have := LZ0.out; omega) HQ.out.1 EW0.out)
   (with_reducible refine C25.out.mono ?_); rintro e v26 ⟨Ay, cy, rfl, ty, b27⟩
   have b27H := Ho.mk b27
   have TY := Ho.mk ty
   clear C25 b27 ty
   go_wp2_with fail
   have C28 := Ho.mk (pSameRow (z := true) (inn TY.out (by have := LW0.out; omega)) (idI (TB.out.bel (((b18H.out.trans b21H.out).trans b24H.out).trans b27H.out)) (by have := LW0.out; omega)) (by have := LW0.out; omega) (by have := LW0.out; omega) (by simp))
   (with_reducible refine C28.out.mono ?_); rintro e v29 ⟨rfl, b30⟩
   have b30H := Ho.mk b30
   clear C28 b30
   go_wp2_with fail
   have C31 := Ho.mk (pScaled (idI (TC.out.bel (((b21H.out.trans b24H.out).trans b27H.out).trans b30H.out)) (by have := LZ1.out; omega)) (by have := LZ1.out; omega) HQ.out.1 EW1.out)
   (with_reducible refine C31.out.mono ?_); rintro e v32 ⟨Ax, cx, rfl, tx, b33⟩
   have b33H := Ho.mk b33
   have TX := Ho.mk tx
   clear C31 b33 tx
   go_wp2_with fail
   have C34 := Ho.mk (pSameRow (z := true) (inn TX.out (by have := LW1.out; omega)) (idI (TD.out.bel ((b27H.out.trans b30H.out).trans b33H.out)) (by have := LW1.out; omega)) (by have := LW1.out; omega) (by have := LW1.out; omega) (by simp))
   (with_reducible refine C34.out.mono ?_); rintro e v35 ⟨rfl, b36⟩
   have b36H := Ho.mk b36
   clear C34 b36
   go_wp2
   go_ret
   exact ⟨rfl, (((((((((((b3H.out.trans b6H.out).trans b9H.out).trans b12H.out).trans b15H.out).trans b18H.out).trans b21H.out).trans b24H.out).trans b27H.out).trans b30H.out).trans b33H.out).trans b36H.out)⟩
theorem scale18_door (A : Option Addr) (c : Nat) (X : List Nat) (up : Bool) (w : World) (T : Tab w) (hx : In w (.slice A X.length c) X) :
  Calls Tryz.prog 7 #[.slice A X.length c, .bool up] w (fun e w' => e = .returned (.bool true) ∧ Bel w w') := by
 by_cases hl : X.length ≤ 64
 ·exact scale18S w T hx rfl hl
 ·exact scale18L w T hx rfl (by omega)
end Ln
end Go.Proofs.YtalbgklfhabnkaaGreatDoor
